/- A part of the proof; the last text says of what. No condition but those that stand in each. -/
import Derived.Test.YtemmkpdjmgafoaaGreatDoorZ3
import Derived.Test.YtemmkpdjmgafoaaGreatDoorZ2
import Derived.Test.YtemmkpdjmgafoaaGreatDoorZ1
namespace Go.Proofs.YtemmkpdjmgafoaaGreatDoor
set_option linter.all false
set_option maxRecDepth 100000
section
open Go
variable {au:Bool}
def aG6{G:bI}{o:Oper}{ev:Operand->U}{σ:ah}{T E N:Nat}{x y:Operand}{k:IntKind}{i c:Int}(n:G.au=true)(h:o.op=.indexAddr T x y)(j:ev x=.iY 0)(m:ev y=.int k i)(r:G.P.underlying T=some (.array N E))(l:∀w,(sizeOf E).run G.P w=.ok 1 w)(hi:0<=i/\i<N)(p:r9[i.toNat]?=some c):
  Yields G o ev σ [] [] (.dI [.int .u8 c]):=
 .pure λs v f z w t u d e=>by
  have b:=e x (by simp[h,Op.operands]);rw[j]at b
  have a:=e y (by simp[h,Op.operands]);rw[m]at a;have a:=g1 a
  simp only[aD,a1]at b;have q:∀w,(underlying T).run G.P w=.ok (.array N E) w:=λw=>by simp[underlying,program,Sem.run,r]
  have g:f 0 (some i.toNat)=some (.int .u8 c):=((d.tab n).mono d.fV) _ _ p;refine⟨.pointer (some ⟨0,i.toNat,none⟩),by simp[execOp,h,b,a,Instr.indexAt,Instr.sureAddr,asIntOf,q,hi,l,Addr.add]<;>omega,?_⟩;simp only[aD,a1];exact⟨0,i.toNat,rfl,⟨_,g,rfl⟩,trivial⟩
section
variable {P:Program}
def D1(aeG:Nat)(c:Int)(op:Op)(env:av):Option (cf×cb):=match op with
 |.indexAddr T x y=>(match env.cn x with
  |some (.iY 0)=>(match env.cn y with
   |some (.int _ i)=>bif Nat.beq T aeG then some (.y [] (.dI [.int .u8 c]),([.int .i64 i],[]))else none
   |_=>none)
  |_=>none)
 |_=>none
variable {N aeG:Nat}{aeo:cb}{env:av}{o:Oper}{σ:ah}
def Ql{E:Nat}{i c:Int}(g:b6 r9 i=some c)(l:P.underlying aeG=some (.array 64 E))(e:∀w,(sizeOf E).run P w=.ok 1 w){ids:cR}{s:cf}(h:D1 aeG c o.op env=some (s,aeo))(k:aeo=([.int .i64 i],[])):eu ⟨P,N,ids,true⟩ o env σ s:=by
 cases a:o.op<;>rw[a]at h
 case indexAddr T x y=>
  simp only[D1]at h;split at h
  .rename_i d;split at h
   .rename_i p n f;obtain⟨b,⟨⟩⟩:=eN h;obtain rfl:=ek b;cases k;have j:=vu g;have m:r9.length=64:=rfl;exact aG6 (G:=⟨P,N,ids,true⟩) rfl a (aFb d) (aFb f) l e (by omega) j.2.2
   .cases h
  .cases h
 all_goals (simp only[D1]at h;cases h)
def nL{aeG E:Nat}{i c:Int}(h:b6 r9 i=some c)(e:P.underlying aeG=some (.array 64 E))(a:∀w,(sizeOf E).run P w=.ok 1 w):Hint P true:=
 .gs false ([.int .i64 i],[]) (λ_ f env _=>D1 aeG c f env) λ_ _ _ _ _ _ _ b d=>Ql h e a b d
variable {T aZ:Nat}{l:bX}
def aHk{e k d:Nat}(t:P.underlying T=some (.slice e))(m:P.underlying e=some (.int .u8))(n:P.underlying aZ=some .string){ids:cR}{ev:Operand->U}{x:Operand}(h:o.op=.convert T aZ x)(j:ev x=.own d)(u:σ.get d=some (.slice aeG 1 (bc (c9 .u8) l) k true)):
  Yields ⟨P,N,ids,au⟩ o ev σ [] [d] (.str (mE l)):=λb s i z y p q a v w=>by
 have r:b.get d=some (.slice aeG 1 (bc (c9 .u8) l) k true):=by rw[q d (by simp)];exact u
 have c:=w x (by simp[h,Op.operands]);rw[j]at c
 refine aHi (au:=au) (f:=false) (l:=l) (N:=N) (ids:=ids) (σ:=σ) (ev:=λ_=>.bn false (bc (c9 .u8) l)) t m n h rfl b s i z y p (by simp) a v λA g=>?_;simp[h,Op.operands]at g;subst g;exact a.slice r c
def DK(T aZ:Nat)(r:ByteArray)(op:Op)(env:av)(σ:ah):Option (cf×cb):=match op with
 |.convert a b x=>(match env.cn x with
  |some (.own d)=>(match σ.get d with
   |some (.slice _ 1 xs _ true)=>bif Nat.beq a T&&Nat.beq b aZ then some (.y [d] (.str r),([],[(0,.slice 0 1 xs 0 true)]))else none
   |_=>none)
  |_=>none)
 |_=>none
def Qm{e:Nat}(g:P.underlying T=some (.slice e))(d:P.underlying e=some (.int .u8))(f:P.underlying aZ=some .string){ids:cR}{s:cf}
  (h:DK T aZ (mE l) o.op env σ=some (s,aeo)) (j:aeo=([],[(0,.slice 0 1 (bc (c9 .u8) l) 0 true)])):eu ⟨P,N,ids,au⟩ o env σ s:=by
 cases b:o.op<;>rw[b]at h
 case convert k m x=>
  simp only[DK]at h;split at h
  .rename_i n c;split at h
   .rename_i aeG q p i;obtain⟨a,⟨⟩⟩:=eN h;simp only[b9]at a;obtain rfl:=ek a.1;obtain rfl:=ek a.2;cases j;exact aHk g d f b (aFb c) i
   .cases h
  .cases h
 all_goals (simp only[DK]at h;cases h)
def acF{T e aZ:Nat}(l:bX)(d:P.underlying T=some (.slice e))(a:P.underlying e=some (.int .u8))(b:P.underlying aZ=some .string):Hint P au:=
 .gs false ([],[(0,.slice 0 1 (bc (c9 .u8) l) 0 true)]) (λ_=>DK T aZ (mE l)) λ_ _ _ _ _ _ _ c f=>Qm d a b c f
end
def UO:TypeDesc->Bool
 |.struct _=>true
 |.array _ _=>true
 |_=>false
def uQ(P:Program)(T:Nat):Option (Nat×Bool):=match P.info? T,P.underlying T with
 |some i,some d=>some (i.size,UO d)
 |_,_=>none
variable {P:Program}{T:Nat}
def Hi{i:TypeInfo}(h:P.info? T=some i)(w:World):(sizeOf T).run P w=.ok i.size w:=by
 simp[sizeOf,typeInfo,program,Sem.run,h]
def C6{n:Nat}{b5:Bool}(h:uQ P T=some (n,b5)):hl P T n b5:=by
 unfold uQ at h;split at h
 .rename_i d a c b;simp only[ee,kJ]at h;obtain⟨rfl,rfl⟩:=h;refine⟨Hi c,λe=>?_⟩;simp only[isAgg,fD,ja b,gQ];cases a<;>rfl
 .cases h
def BZ(P:Program)(T:Nat):Option Value:=match P.info? T with
 |some i=>i.zero
 |none=>none
def Hj{a:Value}(h:BZ P T=some a)(w:World):(zeroValue T).run P w=.ok a w:=by
 unfold BZ at h;split at h
 .rename_i c b;simp[zeroValue,typeInfo,program,Sem.run,b,h]
 .cases h
def sM(P:Program):List Field->Option (List (Nat×Nat))
 |[]=>some []
 |f::r=>match uQ P f.type,sM P r with
  |some (n+1,_),some l=>some ((f.offset,n+1)::l)
  |_,_=>none
def Du(P:Program):List Field->Option (List Bool)
 |[]=>some []
 |f::r=>match uQ P f.type,Du P r with
  |some (n,a),some l=>bif a||Nat.beq n 1 then some (a::l)else none
  |_,_=>none
def IM(P:Program)(T:Nat)(k:yl):Option yl:=match k,P.underlying T with
 |.gF,_=>some .gF
 |.int _,some (.int k)=>some (.int k)
 |.bool,some .bool=>some .bool
 |.str,some .string=>some .str
 |.slice _ _ _ _,some (.slice E)=>(match P.info? E with
  |some e=>(match e.zero with
   |some z=>bif Nat.beq z.cells.size e.size&&Nat.blt 0 e.size then some (.slice E e.size e.bytes z.cells.toList)else none
   |none=>none)
  |none=>none)
 |.map _ _ _,some (.map K E)=>(match P.underlying K with|some (.int k)=>some (.map K E k)|_=>none)
 |.struct _ _ c,some (.struct b)=>(match BZ P T,sM P b.toList,(bif c.isEmpty then some []else Du P b.toList)with
  |some (.agg cs),some d,some a=>some (.struct cs.toList d a)
  |_,_,_=>none)
 |_,_=>none
def NB{P:Program}:∀{fs:List Field} {a:List (Nat×Nat)},sM P fs=some a->∀w,(fs.mapM λf=>do pure (f.offset,<-sizeOf f.type):Sem (List (Nat×Nat))).run P w=.ok a w
 |[],a,h,w=>by simp only[sM,ee]at h;subst h;rfl
 |f::r,a,h,w=>by
  simp only[sM]at h;split at h
  .rename_i g d e c b;simp only[ee]at h;subst h
   simp only[List.mapM_cons,fD,(C6 c).size,gQ,NB b,jq]
  .cases h
def Hk{P:Program}:∀{fs:List Field} {b:List (Nat×Nat)} {f off sz:Nat},sM P fs=some b->b[f]?=some (off,sz)->∃g b5,fs[f]?=some g/\g.offset=off/\uQ P g.type=some (sz,b5)/\sz≠0
 |[],b,f,off,sz,h,a=>by simp only[sM,ee]at h;subst h;simp at a
 |g::r,b,f,off,sz,h,a=>by
  simp only[sM]at h;split at h
  .rename_i i b5 e d c;simp only[ee]at h;subst h
   cases f with
   |zero=>simp at a;exact⟨g,b5,rfl,a.1,by rw[<-a.2];exact d,by omega⟩
   |succ f=>exact Hk (fs:=r) c (by simpa using a)
  .cases h
def NC{P:Program}:∀{fs:List Field} {a:List Bool} {f:Nat} {b5:Bool} {g:Field},Du P fs=some a->a[f]?=some b5->fs[f]?=some g->∃n,uQ P g.type=some (n,b5)/\(b5=false->n=1)
 |[],a,f,b5,g,h,c,b=>by simp at b
 |g::r,a,f,b5,l,h,c,b=>by
  simp only[Du]at h;split at h
  .rename_i n i m k e;cases d:(i||Nat.beq n 1)<;>rw[d]at h
   .cases h
   simp only[cm,ee]at h;subst h
   cases f with
   |zero=>simp at c b;subst c b;exact⟨n,k,λj=>by subst j;simpa using d⟩
   |succ f=>exact NC (fs:=r) e (by simpa using c) (by simpa using b)
  .cases h
theorem Qn{k:yl}(h:IM P T k=some k):iN P T k:=by
 unfold IM at h;split at h
 .exact trivial
 .rename_i b;cases h;exact b
 .rename_i b;exact b
 .rename_i b;exact b
 .rename_i s b;split at h
  .rename_i i d;split at h
   .rename_i n j;cases e:(Nat.beq n.cells.size i.size&&Nat.blt 0 i.size)<;>rw[e]at h
    .cases h
    simp only[b9,n9]at e;have w:0<i.size:=qu e.2;cases h;exact⟨⟨b,Hi d⟩,⟨b,⟨i,n,d,j,rfl,rfl,e.1⟩,w⟩,b,Hi d,λf=>⟨n,Hj (by simp[BZ,d,j]) f,rfl⟩,by simpa using e.1⟩
   .cases h
  .cases h
 .rename_i C s b;split at h
  .rename_i k c;cases h;exact⟨b,c⟩
  .cases h
 .rename_i J F r H b;split at h
  .rename_i G E a j l o;cases h;refine⟨adb (λf=>by simpa using Hj j f) b λf=>?_,λx z B m=>⟨λA f=>?_⟩,λx z B v m t=>?_⟩
   .rw[Array.mapM_eq_mapM_toList,Sem.run_map,NB l];rfl
   .obtain⟨y,v,c,rfl,g,q⟩:=Hk l m;simp only[Instr.fieldAt,Instr.sureAddr,fieldPlace,fD,ja b,gQ,lH.symm,c,jq,(C6 g).size];simp[q]
   .obtain⟨y,D,c,rfl,g,q⟩:=Hk l m;cases d:r.isEmpty<;>rw[d]at o
    .obtain⟨I,p,u⟩:=NC (a:=r) (by simpa using o) t c;rw[g]at p;cases p
     exact RD b (by rw[<-lH,c];rfl) (C6 g) u
    .grind
  .cases h
 .cases h
def I5(P:Program)(T:Nat)(i:rF):Option rF:=match uQ P T,IM P T i.kd,(match i.zs with|none=>some none|some _=>(match BZ P T with|some z=>some (some z.cells.toList)|none=>none))with
 |some (n,a),some k,some b=>some ⟨n,a,b,k⟩
 |_,_,_=>none
def Qo{i:rF}(h:I5 P T i=some i):Dm P T i:=by
 unfold I5 at h;split at h
 .rename_i m k l n d c a;cases h;refine⟨C6 d,λj b f=>?_,Qn c⟩;simp only at a b;subst b
  simp only at a;split at a
  .rename_i g e;exact⟨g,Hj e f,by simp only[ee]at a;rw[<-a]⟩
  .cases a
 .cases h
def OI{P:Program}:∀{bu:eX},(bu.map λp=>I5 P p.1 p.2)=bu.map (λp=>some p.2)->gI P bu
 |[],_=>trivial
 |(k,v)::r,h=>by
  simp only[dr,iV]at h;exact⟨Qo h.1,OI h.2⟩
def gM.ty{bu:eX}(W:gM P bu){i:rF}(h:bu.get T=some i):Dm P T i:=W.tys.get h
end
section
open Go Go.Proofs.Tryz
structure bV where
 aP:Int
 bK:Bool
instance:Inhabited bV:=⟨⟨0,false⟩⟩
def bJ:e9 bV:=.mk (λa=>[.int .i64 a.aP,.bool a.bK]) 2
structure bm where
 A:Int
 B:Int
 iA:Int
 iq:Int
 fo:Int
instance:Inhabited bm:=⟨⟨0,0,0,0,0⟩⟩
def aW:e9 bm:=.mk (λa=>[.int .i64 a.A,.int .i64 a.B,.int .i64 a.iA,.int .i64 a.iq,.int .i64 a.fo]) 5
structure aS where
 bf:List bV
 Links:List bm
structure cu where
 L:List Int
 At:Int
structure j0 where
 dx:Int
 bS:Int
def iL:e9 j0:=.mk (λa=>[.int .i64 a.dx,.int .i64 a.bS]) 2
def vD(a b:j0):Bool:=decide (a.dx=b.dx)&&(decide (a.bS=b.bS)&&true)
structure gG where
 Links:List j0
 bf:List Int
structure c4 where
 Mode:Int
 bA:Int
 Set:Int
 Length:Int
 e3:Int
 gh:Int
 gH:Int
 gJ:Int
 Bits:Int
 gN:ByteArray
def g3:e9 c4:=.mk (λa=>[.int .i64 a.Mode,.int .i64 a.bA,.int .i64 a.Set,.int .i64 a.Length,.int .i64 a.e3,.int .i64 a.gh,.int .i64 a.gH,.int .i64 a.gJ,.int .u64 a.Bits,.str a.gN]) 10
structure cT where
 ai:Int
 aP:Int
instance:Inhabited cT:=⟨⟨0,0⟩⟩
def eM:e9 cT:=.mk (λa=>[.int .i64 a.ai,.int .i64 a.aP]) 2
def vv(a b:cT):Bool:=decide (a.ai=b.ai)&&(decide (a.aP=b.aP)&&true)
structure fx where
 bA:Int
 aP:Int
 Length:Int
def dL:e9 fx:=.mk (λa=>[.int .i64 a.bA,.int .i64 a.aP,.int .i64 a.Length]) 3
def sS(a b:fx):Bool:=decide (a.bA=b.bA)&&(decide (a.aP=b.aP)&&(decide (a.Length=b.Length)&&true))
structure c1 where
 ai:Int
 Claim:fx
def dM:e9 c1:=.mk (λa=>[.int .i64 a.ai,.int .i64 a.Claim.bA,.int .i64 a.Claim.aP,.int .i64 a.Claim.Length]) 4
structure ew where
 ez:Int
 kW:Int
 fo:Int
instance:Inhabited ew:=⟨⟨0,0,0⟩⟩
def dO:e9 ew:=.mk (λa=>[.int .i64 a.ez,.int .i64 a.kW,.int .i64 a.fo]) 3
def sT(a b:ew):Bool:=decide (a.ez=b.ez)&&(decide (a.kW=b.kW)&&(decide (a.fo=b.fo)&&true))
structure a6 where
 ai:Int
 Seq:Int
 bK:Bool
 Links:List ew
 Claims:List fx
instance:Inhabited a6:=⟨⟨0,0,false,[],[]⟩⟩
def cN:e9 a6:=.mk (λa=>[.int .i64 a.ai,.int .i64 a.Seq,.bool a.bK,.bn false (bc dO a.Links),.bn false (bc dL a.Claims)]) 5
structure bM where
 bq:List a6
structure cF where
 dx:Int
 bS:Int
 Database:bM
instance:Inhabited cF:=⟨cF.mk (0:Int) (0:Int) (bM.mk [])⟩
def b2:e9 cF:=.mk (λa=>[.int .i64 a.dx,.int .i64 a.bS,.bn false (bc cN a.Database.bq)]) 3
structure eR where
 aP:Int
 Next:List Int
instance:Inhabited eR:=⟨⟨0,[]⟩⟩
def eL:e9 eR:=.mk (λa=>[.int .i64 a.aP,.bn false (bc aJ a.Next)]) 2
structure cH where
 ai:Int
 bA:Int
 Length:Int
 Rows:List eR
def eA:e9 cH:=.mk (λa=>[.int .i64 a.ai,.int .i64 a.bA,.int .i64 a.Length,.bn false (bc eL a.Rows)]) 4
structure br where
 ai:Int
 Seq:Int
 bK:Bool
 Claims:List fx
 Database:bM
instance:Inhabited br:=⟨br.mk (0:Int) (0:Int) false [] (bM.mk [])⟩
def bF:e9 br:=.mk (λa=>[.int .i64 a.ai,.int .i64 a.Seq,.bool a.bK,.bn false (bc dL a.Claims),.bn false (bc cN a.Database.bq)]) 5
structure dU where
 ec:Int
 hU:Int
instance:Inhabited dU:=⟨⟨0,0⟩⟩
def c3:e9 dU:=.mk (λa=>[.int .i64 a.ec,.int .i64 a.hU]) 2
structure e4 where
 Data:List Int
 Bits:Int
structure k8 where
 e8:e4
structure aQ where
 Links:List bm
 aM:List br
 bg:List cF
structure ea where
 bp:aQ
structure sE where
 jd:List (Int×List dU)
 nc:List (Int×List dU)
structure en where
 bA:Int
 Length:Int
 ck:List cT
structure g8 where
 Set:Int
 Bits:Int
instance:Inhabited g8:=⟨⟨0,0⟩⟩
def jJ:e9 g8:=.mk (λa=>[.int .i64 a.Set,.int .u64 a.Bits]) 2
structure i6 where
 jS:List Int
 cg:c4
structure iU where
 bS:Int
 Frame:i6
def lp:e9 iU:=.mk (λa=>[.int .i64 a.bS,.bn false (bc aJ a.Frame.jS),.int .i64 a.Frame.cg.Mode,.int .i64 a.Frame.cg.bA,.int .i64 a.Frame.cg.Set,.int .i64 a.Frame.cg.Length,.int .i64 a.Frame.cg.e3,.int .i64 a.Frame.cg.gh,.int .i64 a.Frame.cg.gH,.int .i64 a.Frame.cg.gJ,.int .u64 a.Frame.cg.Bits,.str a.Frame.cg.gN]) 12
structure jk where
 Local:Int
 r4:Int
 kT:List iU
structure m1 where
 ai:Int
 cg:c4
def iR:e9 m1:=.mk (λa=>[.int .i64 a.ai,.int .i64 a.cg.Mode,.int .i64 a.cg.bA,.int .i64 a.cg.Set,.int .i64 a.cg.Length,.int .i64 a.cg.e3,.int .i64 a.cg.gh,.int .i64 a.cg.gH,.int .i64 a.cg.gJ,.int .u64 a.cg.Bits,.str a.cg.gN]) 11
structure rj where
 dx:Int
 bS:Int
 Bits:Int
def q8:e9 rj:=.mk (λa=>[.int .i64 a.dx,.int .i64 a.bS,.int .u64 a.Bits]) 3
structure OJ where
 ai:Int
 Bits:Int
def o4:e9 OJ:=.mk (λa=>[.int .i64 a.ai,.int .u64 a.Bits]) 2
structure kU where
 iI:List m1
 Ci:List rj
 qf:List OJ
def mz:e9 kU:=.mk (λa=>[.bn false (bc iR a.iI),.bn false (bc q8 a.Ci),.bn false (bc o4 a.qf)]) 3
structure k7 where
 mA:Int
 gO:i6
def qQ:e9 k7:=.mk (λa=>[.int .i64 a.mA,.bn false (bc aJ a.gO.jS),.int .i64 a.gO.cg.Mode,.int .i64 a.gO.cg.bA,.int .i64 a.gO.cg.Set,.int .i64 a.gO.cg.Length,.int .i64 a.gO.cg.e3,.int .i64 a.gO.cg.gh,.int .i64 a.gO.cg.gH,.int .i64 a.gO.cg.gJ,.int .u64 a.gO.cg.Bits,.str a.gO.cg.gN]) 12
def bu:eX:=[(1,⟨1,false,some [.nilFunc],.gF⟩),(2,⟨1,false,some [zI0],.int .i64⟩),(3,⟨1,false,some [zI0],.int .i64⟩),(4,⟨1,false,some [.bool false],.bool⟩),(5,⟨1,false,some [.int .u8 0],.int .u8⟩),(6,⟨1,false,some [.int .u8 0],.int .u8⟩),(7,⟨4,true,some [zI0,zI0,.bool false,.int .u8 0],.struct [zI0,zI0,.bool false,.int .u8 0] [(0,1),(1,1),(2,1),(3,1)] [false,false,false,false]⟩),(8,⟨4,true,some [zI0,zI0,.bool false,.int .u8 0],.struct [zI0,zI0,.bool false,.int .u8 0] [(0,1),(1,1),(2,1),(3,1)] [false,false,false,false]⟩),(9,⟨1,false,some [.string ⟨#[]⟩],.str⟩),(10,⟨1,false,some [.string ⟨#[]⟩],.str⟩),(11,⟨1,false,some [.string ⟨#[]⟩],.str⟩),(12,⟨1,false,some [.int .u64 0],.int .u64⟩),(13,⟨2,true,some [.string ⟨#[]⟩,.int .u64 0],.struct [.string ⟨#[]⟩,.int .u64 0] [(0,1),(1,1)] [false,false]⟩),(14,⟨2,true,some [.string ⟨#[]⟩,.int .u64 0],.struct [.string ⟨#[]⟩,.int .u64 0] [(0,1),(1,1)] [false,false]⟩),(15,⟨1,false,some [.pointer none],.gF⟩),(16,⟨1,false,some [.pointer none],.gF⟩),(17,⟨1,false,some [.pointer none],.gF⟩),(18,⟨1,true,some [.pointer none],.struct [.pointer none] [(0,1)] [false]⟩),(19,⟨1,true,some [.pointer none],.struct [.pointer none] [(0,1)] [false]⟩),(21,⟨1,false,some [.int .i32 0],.int .i32⟩),(22,⟨1,false,some [zS0],.slice 3 1 8 [zI0]⟩),(23,⟨1,false,some [.pointer none],.gF⟩),(25,⟨1,false,some [zS0],.slice 139 5 40 [zI0,zI0,zI0,zI0,zI0]⟩),(26,⟨1,false,some [zS0],.slice 37 5 72 [zI0,zI0,.bool false,zS0,zS0]⟩),(27,⟨1,false,some [zS0],.slice 161 3 40 [zI0,zI0,zS0]⟩),(28,⟨3,true,some [zS0,zS0,zS0],.struct [zS0,zS0,zS0] [(0,1),(1,1),(2,1)] [false,false,false]⟩),(29,⟨3,true,some [zS0,zS0,zS0],.struct [zS0,zS0,zS0] [(0,1),(1,1),(2,1)] [false,false,false]⟩),(32,⟨1,false,some [zS0],.slice 141 3 24 [zI0,zI0,zI0]⟩),(33,⟨1,false,some [zS0],.slice 167 5 72 [zI0,zI0,.bool false,zS0,zS0]⟩),(34,⟨1,true,some [zS0],.struct [zS0] [(0,1)] [false]⟩),(35,⟨1,true,some [zS0],.struct [zS0] [(0,1)] [false]⟩),(36,⟨5,true,some [zI0,zI0,.bool false,zS0,zS0],.struct [zI0,zI0,.bool false,zS0,zS0] [(0,1),(1,1),(2,1),(3,1),(4,1)] [false,false,false,false,true]⟩),(37,⟨5,true,some [zI0,zI0,.bool false,zS0,zS0],.struct [zI0,zI0,.bool false,zS0,zS0] [(0,1),(1,1),(2,1),(3,1),(4,1)] [false,false,false,false,true]⟩),(39,⟨1,false,some [zS0],.slice 82 2 16 [zI0,.bool false]⟩),(40,⟨2,true,some [zS0,zS0],.struct [zS0,zS0] [(0,1),(1,1)] [false,false]⟩),(41,⟨2,true,some [zS0,zS0],.struct [zS0,zS0] [(0,1),(1,1)] [false,false]⟩),(42,⟨1,false,some [zS0],.slice 49 2 16 [zI0,zI0]⟩),(43,⟨3,true,some [zI0,zI0,zS0],.struct [zI0,zI0,zS0] [(0,1),(1,1),(2,1)] [false,false,false]⟩),(44,⟨3,true,some [zI0,zI0,zS0],.struct [zI0,zI0,zS0] [(0,1),(1,1),(2,1)] [false,false,false]⟩),(45,⟨1,false,some [zS0],.slice 101 4 48 [zI0,zI0,zI0,zS0]⟩),(48,⟨2,true,some [zI0,zI0],.struct [zI0,zI0] [(0,1),(1,1)] [false,false]⟩),(49,⟨2,true,some [zI0,zI0],.struct [zI0,zI0] [(0,1),(1,1)] [false,false]⟩),(50,⟨1,false,some [.int .u64 0],.int .u64⟩),(51,⟨10,true,some [zI0,zI0,zI0,zI0,zI0,zI0,zI0,zI0,.int .u64 0,.string ⟨#[]⟩],.struct [zI0,zI0,zI0,zI0,zI0,zI0,zI0,zI0,.int .u64 0,.string ⟨#[]⟩] [(0,1),(1,1),(2,1),(3,1),(4,1),(5,1),(6,1),(7,1),(8,1),(9,1)] [false,false,false,false,false,false,false,false,false,false]⟩),(52,⟨10,true,some [zI0,zI0,zI0,zI0,zI0,zI0,zI0,zI0,.int .u64 0,.string ⟨#[]⟩],.struct [zI0,zI0,zI0,zI0,zI0,zI0,zI0,zI0,.int .u64 0,.string ⟨#[]⟩] [(0,1),(1,1),(2,1),(3,1),(4,1),(5,1),(6,1),(7,1),(8,1),(9,1)] [false,false,false,false,false,false,false,false,false,false]⟩),(54,⟨1,false,some [zS0],.slice 52 10 88 [zI0,zI0,zI0,zI0,zI0,zI0,zI0,zI0,.int .u64 0,.string ⟨#[]⟩]⟩),(55,⟨1,false,some [zI0],.int .i64⟩),(58,⟨1,false,some [zS0],.slice 63 3 72 [zS0,zS0,zS0]⟩),(59,⟨1,false,some [zS0],.slice 127 11 96 [zI0,zI0,zI0,zI0,zI0,zI0,zI0,zI0,zI0,.int .u64 0,.string ⟨#[]⟩]⟩),(60,⟨1,false,some [zS0],.slice 227 3 24 [zI0,zI0,.int .u64 0]⟩),(61,⟨1,false,some [zS0],.slice 130 2 16 [zI0,.int .u64 0]⟩),(63,⟨3,true,some [zS0,zS0,zS0],.struct [zS0,zS0,zS0] [(0,1),(1,1),(2,1)] [false,false,false]⟩),(74,⟨2,true,some [zS0,zI0],.struct [zS0,zI0] [(0,1),(1,1)] [false,false]⟩),(78,⟨1,false,some [zS0],.slice 143 4 32 [zI0,zI0,zI0,zI0]⟩),(82,⟨2,true,some [zI0,.bool false],.struct [zI0,.bool false] [(0,1),(1,1)] [false,false]⟩),(85,⟨1,false,some [zS0],.slice 174 2 16 [zI0,zI0]⟩),(86,⟨2,true,some [zS0,zS0],.struct [zS0,zS0] [(0,1),(1,1)] [false,false]⟩),(87,⟨2,true,some [zS0,zS0],.struct [zS0,zS0] [(0,1),(1,1)] [false,false]⟩),(99,⟨1,false,some [zS0],.slice 145 2 32 [zI0,zS0]⟩),(101,⟨4,true,some [zI0,zI0,zI0,zS0],.struct [zI0,zI0,zI0,zS0] [(0,1),(1,1),(2,1),(3,1)] [false,false,false,false]⟩),(107,⟨1,false,some [.nilFunc],.gF⟩),(108,⟨1,false,some [zS0],.slice 112 2 16 [zI0,.int .u64 0]⟩),(112,⟨2,true,some [zI0,.int .u64 0],.struct [zI0,.int .u64 0] [(0,1),(1,1)] [false,false]⟩),(113,⟨1,false,some [.nilFunc],.gF⟩),(119,⟨11,true,some [zS0,zI0,zI0,zI0,zI0,zI0,zI0,zI0,zI0,.int .u64 0,.string ⟨#[]⟩],.struct [zS0,zI0,zI0,zI0,zI0,zI0,zI0,zI0,zI0,.int .u64 0,.string ⟨#[]⟩] [(0,1),(1,10)] [false,true]⟩),(120,⟨1,false,some [zS0],.slice 225 12 120 [zI0,zS0,zI0,zI0,zI0,zI0,zI0,zI0,zI0,zI0,.int .u64 0,.string ⟨#[]⟩]⟩),(122,⟨3,true,some [.int .u64 0,.int .u64 0,zS0],.struct [.int .u64 0,.int .u64 0,zS0] [(0,1),(1,1),(2,1)] [false,false,false]⟩),(125,⟨1,false,some [.nilFunc],.gF⟩),(127,⟨11,true,some [zI0,zI0,zI0,zI0,zI0,zI0,zI0,zI0,zI0,.int .u64 0,.string ⟨#[]⟩],.struct [zI0,zI0,zI0,zI0,zI0,zI0,zI0,zI0,zI0,.int .u64 0,.string ⟨#[]⟩] [(0,1),(1,10)] [false,true]⟩),(130,⟨2,true,some [zI0,.int .u64 0],.struct [zI0,.int .u64 0] [(0,1),(1,1)] [false,false]⟩),(139,⟨5,true,some [zI0,zI0,zI0,zI0,zI0],.struct [zI0,zI0,zI0,zI0,zI0] [(0,1),(1,1),(2,1),(3,1),(4,1)] [false,false,false,false,false]⟩),(141,⟨3,true,some [zI0,zI0,zI0],.struct [zI0,zI0,zI0] [(0,1),(1,1),(2,1)] [false,false,false]⟩),(143,⟨4,true,some [zI0,zI0,zI0,zI0],.struct [zI0,zI0,zI0,zI0] [(0,1),(1,3)] [false,true]⟩),(145,⟨2,true,some [zI0,zS0],.struct [zI0,zS0] [(0,1),(1,1)] [false,false]⟩),(149,⟨1,false,some [.nilFunc],.gF⟩),(152,⟨1,false,some [.pointer none],.gF⟩),(156,⟨3,true,some [zS0,zS0,zS0],.struct [zS0,zS0,zS0] [(0,3)] [true]⟩),(157,⟨1,false,some [.nilFunc],.gF⟩),(161,⟨3,true,some [zI0,zI0,zS0],.struct [zI0,zI0,zS0] [(0,1),(1,1),(2,1)] [false,false,true]⟩),(163,⟨1,false,some [.nilFunc],.gF⟩),(164,⟨1,false,some [.pointer none],.gF⟩),(165,⟨1,false,some [zS0],.slice 185 3 24 [zI0,zI0,zI0]⟩),(167,⟨5,true,some [zI0,zI0,.bool false,zS0,zS0],.struct [zI0,zI0,.bool false,zS0,zS0] [(0,1),(1,1),(2,1),(3,1),(4,1)] [false,false,false,false,false]⟩),(170,⟨1,false,some [.nilFunc],.gF⟩),(174,⟨2,true,some [zI0,zI0],.struct [zI0,zI0] [(0,1),(1,1)] [false,false]⟩),(178,⟨1,false,some [zS0],.slice 1 1 8 [.nilFunc]⟩),(183,⟨1,false,some [.map none],.map 3 4 .i64⟩),(185,⟨3,true,some [zI0,zI0,zI0],.struct [zI0,zI0,zI0] [(0,1),(1,1),(2,1)] [false,false,false]⟩),(189,⟨1,false,some [.nilFunc],.gF⟩),(191,⟨1,false,some [.nilFunc],.gF⟩),(196,⟨257,true,some (List.replicate 257 (zI0)),.gF⟩),(199,⟨1,false,some [.nilFunc],.gF⟩),(201,⟨1,false,some [zS0],.slice 5 1 1 [.int .u8 0]⟩),(209,⟨1,false,some [.nilFunc],.gF⟩),(211,⟨1,false,some [.nilFunc],.gF⟩),(213,⟨1,false,some [.nilFunc],.gF⟩),(216,⟨1,false,some [.nilFunc],.gF⟩),(220,⟨12,true,some [zI0,zS0,zI0,zI0,zI0,zI0,zI0,zI0,zI0,zI0,.int .u64 0,.string ⟨#[]⟩],.struct [zI0,zS0,zI0,zI0,zI0,zI0,zI0,zI0,zI0,zI0,.int .u64 0,.string ⟨#[]⟩] [(0,1),(1,11)] [false,true]⟩),(221,⟨1,false,some [zS0],.slice 220 12 120 [zI0,zS0,zI0,zI0,zI0,zI0,zI0,zI0,zI0,zI0,.int .u64 0,.string ⟨#[]⟩]⟩),(225,⟨12,true,some [zI0,zS0,zI0,zI0,zI0,zI0,zI0,zI0,zI0,zI0,.int .u64 0,.string ⟨#[]⟩],.struct [zI0,zS0,zI0,zI0,zI0,zI0,zI0,zI0,zI0,zI0,.int .u64 0,.string ⟨#[]⟩] [(0,1),(1,11)] [false,true]⟩),(227,⟨3,true,some [zI0,zI0,.int .u64 0],.struct [zI0,zI0,.int .u64 0] [(0,1),(1,1),(2,1)] [false,false,false]⟩),(234,⟨1,false,some [.nilFunc],.gF⟩),(239,⟨1,false,some [.int .u64 0],.int .u64⟩),(244,⟨1,false,some [.nilFunc],.gF⟩),(266,⟨1,false,some [.map none],.map 3 22 .i64⟩),(274,⟨1,false,some [.nilFunc],.gF⟩),(285,⟨1,false,some [zI0],.int .i64⟩),(292,⟨1,false,some [.int .u32 0],.int .u32⟩),(294,⟨1,false,some [.nilFunc],.gF⟩),(296,⟨1,false,some [.pointer none],.gF⟩),(315,⟨1,false,some [.map none],.map 3 346 .i64⟩),(317,⟨2,true,some [.map none,.map none],.struct [.map none,.map none] [(0,1),(1,1)] [false,false]⟩),(319,⟨1,false,some [.map none],.map 3 3 .i64⟩),(327,⟨1,false,some [.map none],.map 3 50 .i64⟩),(329,⟨1,false,some [.nilFunc],.gF⟩),(330,⟨64,true,some (List.replicate 64 (.int .u8 0)),.gF⟩),(338,⟨1,false,some [.nilFunc],.gF⟩),(346,⟨1,false,some [zS0],.slice 348 2 16 [zI0,zI0]⟩),(348,⟨2,true,some [zI0,zI0],.struct [zI0,zI0] [(0,1),(1,1)] [false,false]⟩),(350,⟨1,false,some [.nilFunc],.gF⟩),(365,⟨2,true,some [zS0,zI0],.struct [zS0,zI0] [(0,1),(1,1)] [false,false]⟩),(367,⟨2,true,some [zS0,zI0],.struct [zS0,zI0] [(0,2)] [true]⟩),(377,⟨1,false,some [.pointer none],.gF⟩),(386,⟨1,false,some [.pointer none],.gF⟩)]
def fN:gM prog bu:=⟨ul,OI (by kernel_rfl)⟩
def HO:Qd 196 (List.replicate 257 (zI0)):=(fN.ty (T:=196) rfl).P9 _ rfl
def I7:hl prog 3 1 false:=(fN.ty (T:=3) rfl).ty
def Ju:lJ prog 27 161 3:=(fN.ty (T:=27) rfl).kd.1
def Jv:lJ prog 45 101 4:=(fN.ty (T:=45) rfl).kd.1
def RS:uj prog 45 101 4 [zI0,zI0,zI0,zS0]:=(fN.ty (T:=45) rfl).kd.2.2
def Jw:hl prog 99 1 false:=(fN.ty (T:=99) rfl).ty
def C9:hl prog 196 257 true:=(fN.ty (T:=196) rfl).ty
def Oc:hs prog 266 3 22 .i64:=(fN.ty (T:=266) rfl).kd
def lf:hs prog 315 3 346 .i64:=(fN.ty (T:=315) rfl).kd
def qg:hs prog 319 3 3 .i64:=(fN.ty (T:=319) rfl).kd
def Qp:hs prog 327 3 50 .i64:=(fN.ty (T:=327) rfl).kd
def abZ:a3 prog 4:=⟨call4⟩
def ab4:a3 prog 5:=⟨call5⟩
def jg:a3 prog 6:=⟨call6⟩
def acf:a3 prog 7:=⟨call7⟩
def aci:a3 prog 8:=⟨call8⟩
def acn:a3 prog 9:=⟨call9⟩
def abJ:a3 prog 10:=⟨call10⟩
def Dv:a3 prog 11:=⟨call11⟩
def abK:a3 prog 12:=⟨call12⟩
def abL:a3 prog 13:=⟨call13⟩
def HY:a3 prog 14:=⟨call14⟩
def abM:a3 prog 15:=⟨call15⟩
def abN:a3 prog 16:=⟨call16⟩
def Jx:a3 prog 17:=⟨call17⟩
def abO:a3 prog 18:=⟨call18⟩
def Ig:a3 prog 19:=⟨call19⟩
def Jy:a3 prog 20:=⟨call20⟩
def abP:a3 prog 21:=⟨call21⟩
def abQ:a3 prog 22:=⟨call22⟩
def abR:a3 prog 23:=⟨call23⟩
def Jz:a3 prog 24:=⟨call24⟩
def abS:a3 prog 25:=⟨call25⟩
def abT:a3 prog 26:=⟨call26⟩
def abU:a3 prog 27:=⟨call27⟩
def abV:a3 prog 28:=⟨call28⟩
def JA:a3 prog 29:=⟨call29⟩
def abW:a3 prog 30:=⟨call30⟩
def abX:a3 prog 31:=⟨call31⟩
def Ih:a3 prog 32:=⟨call32⟩
def abY:a3 prog 33:=⟨call33⟩
def Ii:a3 prog 34:=⟨call34⟩
def JB:a3 prog 35:=⟨call35⟩
def JC:a3 prog 36:=⟨call36⟩
def JD:a3 prog 37:=⟨call37⟩
def JE:a3 prog 38:=⟨call38⟩
def tX:a3 prog 39:=⟨call39⟩
def wH:a3 prog 40:=⟨call40⟩
def ab0:a3 prog 41:=⟨call41⟩
def ab1:a3 prog 42:=⟨call42⟩
def Ij:a3 prog 43:=⟨call43⟩
def ab2:a3 prog 45:=⟨call45⟩
def mK:a3 prog 46:=⟨call46⟩
def kX:a3 prog 47:=⟨call47⟩
def Dw:a3 prog 48:=⟨call48⟩
def ab3:a3 prog 49:=⟨call49⟩
def ab5:a3 prog 50:=⟨call50⟩
def ab6:a3 prog 51:=⟨call51⟩
def ab7:a3 prog 52:=⟨call52⟩
def JF:a3 prog 53:=⟨call53⟩
def zP:a3 prog 54:=⟨call54⟩
def ab8:a3 prog 55:=⟨call55⟩
def ab9:a3 prog 56:=⟨call56⟩
def JG:a3 prog 57:=⟨call57⟩
def JH:a3 prog 58:=⟨call58⟩
def acc:a3 prog 59:=⟨call59⟩
def Dx:a3 prog 60:=⟨call60⟩
def acd:a3 prog 61:=⟨call61⟩
def JI:a3 prog 62:=⟨call62⟩
def ace:a3 prog 63:=⟨call63⟩
def nC:a3 prog 64:=⟨call64⟩
def Dy:a3 prog 65:=⟨call65⟩
def mL:a3 prog 66:=⟨call66⟩
def Dj:a3 prog 67:=⟨call67⟩
def oF:a3 prog 68:=⟨call68⟩
def wI:a3 prog 69:=⟨call69⟩
def Dk:a3 prog 70:=⟨call70⟩
def wJ:a3 prog 71:=⟨call71⟩
def tY:a3 prog 72:=⟨call72⟩
def acg:a3 prog 73:=⟨call73⟩
def ach:a3 prog 74:=⟨call74⟩
def Jl:a3 prog 75:=⟨call75⟩
def zQ:a3 prog 76:=⟨call76⟩
def wK:a3 prog 77:=⟨call77⟩
def Ik:a3 prog 78:=⟨call78⟩
def r1:a3 prog 79:=⟨call79⟩
def acj:a3 prog 80:=⟨call80⟩
def Jm:a3 prog 81:=⟨call81⟩
def Dl:a3 prog 82:=⟨call82⟩
def Jn:a3 prog 83:=⟨call83⟩
def Jo:a3 prog 84:=⟨call84⟩
def Jp:a3 prog 85:=⟨call85⟩
def ack:a3 prog 86:=⟨call86⟩
def zH:a3 prog 87:=⟨call87⟩
def Jq:a3 prog 88:=⟨call88⟩
def acm:a3 prog 89:=⟨call89⟩
def zI:a3 prog 90:=⟨call90⟩
def aco:a3 prog 91:=⟨call91⟩
def qy:a3 prog 92:=⟨call92⟩
def acp:a3 prog 93:=⟨call93⟩
def acq:a3 prog 94:=⟨call94⟩
def acr:a3 prog 96:=⟨call96⟩
def Jr:a3 prog 98:=⟨call98⟩
def hN:a3 prog 99:=⟨call99⟩
def RT:a3 prog 100:=⟨call100⟩
def RU:a3 prog 101:=⟨call101⟩
def RV:a3 prog 102:=⟨call102⟩
def zC:a3 prog 104:=⟨call104⟩
def RW:a3 prog 105:=⟨call105⟩
def OK:a3 prog 106:=⟨call106⟩
def RX:a3 prog 107:=⟨call107⟩
def zD:a3 prog 108:=⟨call108⟩
def RY:a3 prog 109:=⟨call109⟩
def RZ:a3 prog 110:=⟨call110⟩
def OL:a3 prog 111:=⟨call111⟩
def hy:a3 prog 112:=⟨call112⟩
def vS:a3 prog 113:=⟨call113⟩
def Rt:a3 prog 114:=⟨call114⟩
def Ru:a3 prog 115:=⟨call115⟩
def tv:a3 prog 116:=⟨call116⟩
def HE:a3 prog 117:=⟨call117⟩
def OM:a3 prog 118:=⟨call118⟩
def ON:a3 prog 119:=⟨call119⟩
def HF:a3 prog 120:=⟨call120⟩
def Rv:a3 prog 121:=⟨call121⟩
def Rw:a3 prog 122:=⟨call122⟩
def Rx:a3 prog 123:=⟨call123⟩
def OO:a3 prog 124:=⟨call124⟩
def OP:a3 prog 125:=⟨call125⟩
def Ry:a3 prog 126:=⟨call126⟩
def rN:a3 prog 127:=⟨call127⟩
def Rz:a3 prog 128:=⟨call128⟩
def OQ:a3 prog 129:=⟨call129⟩
def RA:a3 prog 130:=⟨call130⟩
def RB:a3 prog 131:=⟨call131⟩
def RC:a3 prog 134:=⟨call134⟩
def S0:a3 prog 135:=⟨call135⟩
def S1:a3 prog 136:=⟨call136⟩
def j8:a3 prog 137:=⟨call137⟩
def OR:a3 prog 138:=⟨call138⟩
def S2:a3 prog 139:=⟨call139⟩
def S3:a3 prog 140:=⟨call140⟩
def OS:a3 prog 141:=⟨call141⟩
def S4:a3 prog 142:=⟨call142⟩
def S5:a3 prog 143:=⟨call143⟩
def S6:a3 prog 144:=⟨call144⟩
def S7:a3 prog 145:=⟨call145⟩
def OT:a3 prog 146:=⟨call146⟩
def vT:a3 prog 147:=⟨call147⟩
def OU:a3 prog 148:=⟨call148⟩
def vU:a3 prog 149:=⟨call149⟩
def zF:a3 prog 150:=⟨call150⟩
def S8:a3 prog 151:=⟨call151⟩
def HG:a3 prog 152:=⟨call152⟩
def HH:a3 prog 153:=⟨call153⟩
def S9:a3 prog 154:=⟨call154⟩
def Ta:a3 prog 155:=⟨call155⟩
def Tb:a3 prog 156:=⟨call156⟩
def Ou:a3 prog 157:=⟨call157⟩
def Tc:a3 prog 158:=⟨call158⟩
def tw:a3 prog 159:=⟨call159⟩
def Da:a3 prog 160:=⟨call160⟩
def Td:a3 prog 161:=⟨call161⟩
def Te:a3 prog 162:=⟨call162⟩
def Db:a3 prog 163:=⟨call163⟩
def vV:a3 prog 164:=⟨call164⟩
def Tf:a3 prog 165:=⟨call165⟩
def Tg:a3 prog 166:=⟨call166⟩
def Th:a3 prog 167:=⟨call167⟩
def Ti:a3 prog 168:=⟨call168⟩
def Tj:a3 prog 169:=⟨call169⟩
def Tk:a3 prog 170:=⟨call170⟩
def Tl:a3 prog 173:=⟨call173⟩
def Ov:a3 prog 175:=⟨call175⟩
def Tm:a3 prog 176:=⟨call176⟩
def Tn:a3 prog 177:=⟨call177⟩
def To:a3 prog 178:=⟨call178⟩
def Tp:a3 prog 179:=⟨call179⟩
def Sy:a3 prog 180:=⟨call180⟩
def Sz:a3 prog 181:=⟨call181⟩
def SA:a3 prog 182:=⟨call182⟩
def SB:a3 prog 183:=⟨call183⟩
def oc:a3 prog 184:=⟨call184⟩
def Dc:a3 prog 185:=⟨call185⟩
def Ow:a3 prog 186:=⟨call186⟩
def SC:a3 prog 187:=⟨call187⟩
def HI:a3 prog 188:=⟨call188⟩
def SD:a3 prog 189:=⟨call189⟩
def Ox:a3 prog 190:=⟨call190⟩
def SE:a3 prog 191:=⟨call191⟩
def HJ:a3 prog 192:=⟨call192⟩
def SF:a3 prog 193:=⟨call193⟩
def Oy:a3 prog 194:=⟨call194⟩
def SG:a3 prog 195:=⟨call195⟩
def SH:a3 prog 196:=⟨call196⟩
def SI:a3 prog 197:=⟨call197⟩
def SJ:a3 prog 198:=⟨call198⟩
def SK:a3 prog 199:=⟨call199⟩
def SL:a3 prog 200:=⟨call200⟩
def SM:a3 prog 201:=⟨call201⟩
def SN:a3 prog 202:=⟨call202⟩
def SO:a3 prog 203:=⟨call203⟩
def SP:a3 prog 213:=⟨call213⟩
def hA:a3 prog 214:=⟨call214⟩
def SQ:a3 prog 215:=⟨call215⟩
def SR:a3 prog 216:=⟨call216⟩
def Oz:a3 prog 217:=⟨call217⟩
def OA:a3 prog 218:=⟨call218⟩
def OB:a3 prog 219:=⟨call219⟩
def OC:a3 prog 220:=⟨call220⟩
def SS:a3 prog 221:=⟨call221⟩
def OD:a3 prog 222:=⟨call222⟩
def SU:a3 prog 223:=⟨call223⟩
def SV:a3 prog 224:=⟨call224⟩
def SX:a3 prog 249:=⟨call249⟩
def SY:a3 prog 250:=⟨call250⟩
def SZ:a3 prog 251:=⟨call251⟩
def Sn:a3 prog 252:=⟨call252⟩
def OV:a3 prog 253:=⟨call253⟩
def Sp:a3 prog 254:=⟨call254⟩
def Sq:a3 prog 255:=⟨call255⟩
def Sr:a3 prog 256:=⟨call256⟩
def OW:a3 prog 257:=⟨call257⟩
def Ss:a3 prog 258:=⟨call258⟩
def OX:a3 prog 259:=⟨call259⟩
def St:a3 prog 260:=⟨call260⟩
def OY:a3 prog 261:=⟨call261⟩
def Su:a3 prog 267:=⟨call267⟩
def Sv:a3 prog 268:=⟨call268⟩
def Sw:a3 prog 269:=⟨call269⟩
def Sx:a3 prog 270:=⟨call270⟩
def TH:a3 prog 280:=⟨call280⟩
def OZ:a3 prog 285:=⟨call285⟩
def TI:a3 prog 286:=⟨call286⟩
def od:a3 prog 292:=⟨call292⟩
def TJ:a3 prog 293:=⟨call293⟩
def TK:a3 prog 304:=⟨call304⟩
def O0:a3 prog 305:=⟨call305⟩
def TL:a3 prog 306:=⟨call306⟩
def TM:a3 prog 310:=⟨call310⟩
def TN:a3 prog 311:=⟨call311⟩
def TO:a3 prog 312:=⟨call312⟩
abbrev Pu:ByteArray:=⟨#[0,1,2,2,3,3,3,3,4,4,4,4,4,4,4,4,5,5,5,5,5,5,5,5,5,5,5,5,5,5,5,5,6,6,6,6,6,6,6,6,6,6,6,6,6,6,6,6,6,6,6,6,6,6,6,6,6,6,6,6,6,6,6,6,7,7,7,7,7,7,7,7,7,7,7,7,7,7,7,7,7,7,7,7,7,7,7,7,7,7,7,7,7,7,7,7,7,7,7,7,7,7,7,7,7,7,7,7,7,7,7,7,7,7,7,7,7,7,7,7,7,7,7,7,7,7,7,7,8,8,8,8,8,8,8,8,8,8,8,8,8,8,8,8,8,8,8,8,8,8,8,8,8,8,8,8,8,8,8,8,8,8,8,8,8,8,8,8,8,8,8,8,8,8,8,8,8,8,8,8,8,8,8,8,8,8,8,8,8,8,8,8,8,8,8,8,8,8,8,8,8,8,8,8,8,8,8,8,8,8,8,8,8,8,8,8,8,8,8,8,8,8,8,8,8,8,8,8,8,8,8,8,8,8,8,8,8,8,8,8,8,8,8,8,8,8,8,8,8,8,8,8,8,8,8,8]⟩
section
variable {au:Bool}
def aj{N:Nat}{ids:List Nat}{y:Code}{Q:Exit->av->ah->Prop}{env:av}{σ:ah}{id:Nat}{ops:Array Oper}{dY:Bool}(adW:List (Nat×Hint prog au))(dc:av)(σ2:ah)(k:ar ⟨prog,N,ids,au⟩ y Q dc σ2)
  (h:qH bu N ids ops dY (h5 ops dY adW).1 (h5 ops dY adW).2 [] adW (ob dc) σ2.ids env σ=some (dc,σ2,(h5 ops dY adW).2.map λi=>(hintOf adW i).exp):=by kernel_rfl):ar ⟨prog,N,ids,au⟩ (.seq (.region id ops dY) y) Q env σ:=aFx fN [] adW dc σ2 h k
def lU{N:Nat}{ids:List Nat}{Q:Exit->av->ah->Prop}{env:av}{σ:ah}{id:Nat}{ops:Array Oper}{dY:Bool}(adW:List (Nat×Hint prog au))(dc:av)(σ2:ah)(k:Q .normal dc σ2)
  (h:qH bu N ids ops dY (h5 ops dY adW).1 (h5 ops dY adW).2 [] adW (ob dc) σ2.ids env σ=some (dc,σ2,(h5 ops dY adW).2.map λi=>(hintOf adW i).exp):=by kernel_rfl):ar ⟨prog,N,ids,au⟩ (.region id ops dY) Q env σ:=A.R fN [] adW dc σ2 h k
def Js(n:Nat):List Nat->Bool
 |[]=>false
 |k::r=>bif Nat.beq k n then true else Js n r
def j1{α:Type}(ks:List Nat)(afN:List (Nat×α)):List (Nat×α)->List (Nat×α)
 |[]=>afN
 |p::l=>bif Js p.1 ks then j1 ks afN l else p::j1 ks afN l
section
variable {N:Nat}{ids:List Nat}{y:Code}{Q:Exit->av->ah->Prop}{env:av}{σ:ah}{id:Nat}{ops:Array Oper}{dY:Bool}(adW:List (Nat×Hint prog au))(ks:List Nat)(afN:av)(apQ:List Nat)(apY:ah)
def aV(k:ar ⟨prog,N,ids,au⟩ y Q (j1 ks afN env) (j1 apQ apY σ))
  (h:qH bu N ids ops dY (h5 ops dY adW).1 (h5 ops dY adW).2 [] adW (ob (j1 ks afN env)) (ah.ids (j1 apQ apY σ)) env σ=some (j1 ks afN env,j1 apQ apY σ,(h5 ops dY adW).2.map λi=>(hintOf adW i).exp):=by kernel_rfl):ar ⟨prog,N,ids,au⟩ (.seq (.region id ops dY) y) Q env σ:=aFx fN [] adW _ _ h k
def ak(k:ar ⟨prog,N,ids,au⟩ y Q (j1 ks afN env) σ)
  (h:qH bu N ids ops dY (h5 ops dY adW).1 (h5 ops dY adW).2 [] adW (ob (j1 ks afN env)) σ.ids env σ=some (j1 ks afN env,σ,(h5 ops dY adW).2.map λi=>(hintOf adW i).exp):=by kernel_rfl):ar ⟨prog,N,ids,au⟩ (.seq (.region id ops dY) y) Q env σ:=aFx fN [] adW _ _ h k
def b0(k:Q .normal (j1 ks afN env) (j1 apQ apY σ))
  (h:qH bu N ids ops dY (h5 ops dY adW).1 (h5 ops dY adW).2 [] adW (ob (j1 ks afN env)) (ah.ids (j1 apQ apY σ)) env σ=some (j1 ks afN env,j1 apQ apY σ,(h5 ops dY adW).2.map λi=>(hintOf adW i).exp):=by kernel_rfl):ar ⟨prog,N,ids,au⟩ (.region id ops dY) Q env σ:=A.R fN [] adW _ _ h k
def a7(k:Q .normal (j1 ks afN env) σ)
  (h:qH bu N ids ops dY (h5 ops dY adW).1 (h5 ops dY adW).2 [] adW (ob (j1 ks afN env)) σ.ids env σ=some (j1 ks afN env,σ,(h5 ops dY adW).2.map λi=>(hintOf adW i).exp):=by kernel_rfl):ar ⟨prog,N,ids,au⟩ (.region id ops dY) Q env σ:=A.R fN [] adW _ _ h k
end
variable {fn:Func}
def adP{N:Nat}{ids:List Nat}{env:av}{σ σ2:ah}{R:U}(h:zM bu ids [] σ2.ids fn.results.toList env σ=some (R,σ2):=by kernel_rfl):
  pn ⟨prog,N,ids,au⟩ fn (λa b=>a=R/\b=σ2) .ret env σ:=aFH fN [] rfl h
variable {G:bI}
def c8{env dc:av}{σ σ2:ah}(h:vQ G.ids [] [] (ob dc) σ2.ids env σ=some (dc,σ2):=by kernel_rfl):cZ G env σ dc σ2:=cZ.go [] [] h
variable {aen α:Type}{r:aen}
def aT{J:α->Option aen}{env:av}{σ:ah}{b:α->av}{a:α->ah}(g:α)(c:J g=some r)(h:vQ G.ids [] [] (ob (b g)) (a g).ids env σ=some (b g,a g):=by kernel_rfl):
  ∃g,J g=some r/\cZ G env σ (b g) (a g):=⟨g,c,cZ.go [] [] h⟩
variable {o:Operand}
def aI{p:Bool}{x y:Code}{Q:Exit->av->ah->Prop}{env:av}{σ:ah}(a:p=true)(k:ar G x Q env σ)(b:env.cn o=some (.bool p):=by kernel_rfl):ar G (.cond o x y) Q env σ:=aFu b a k
def aH{p:Bool}{x y:Code}{Q:Exit->av->ah->Prop}{env:av}{σ:ah}(a:p=false)(k:ar G y Q env σ)(b:env.cn o=some (.bool p):=by kernel_rfl):ar G (.cond o x y) Q env σ:=aFl b a k
def cr{env dc:av}{σ σ2:ah}(a:List lI)(sl:List Nat)(h:vQ G.ids a sl (ob dc) σ2.ids env σ=some (dc,σ2):=by kernel_rfl):cZ G env σ dc σ2:=Mg h
def adO{p:Bool}{x y:Code}{Q:Exit->av->ah->Prop}{env:av}{σ:ah}{s t:Option aen}(b:(bif p then s else t)=some r)(dJ:p=true->s=some r->ar G x Q env σ)(bz:p=false->t=some r->ar G y Q env σ)(c:env.cn o=some (.bool p):=by kernel_rfl):ar G (.cond o x y) Q env σ:=by
 rcases aC b with⟨a,b⟩|⟨a,b⟩
 .exact aFu c a (dJ a b)
 .exact aFl c a (bz a b)
def adK{Q:Exit->av->ah->Prop}{env:av}{σ:ah}(h:Q .ret env σ):ar G .ret Q env σ:=c2 h
def adJ{N:Nat}{ids:List Nat}{env:av}{σ σ2:ah}{R:U}(h:zM bu ids [] σ2.ids fn.results.toList env σ=some (R,σ2):=by kernel_rfl):pn ⟨prog,N,ids,au⟩ fn (λa b=>a=R/\b=σ2) .ret env σ:=aFH fN [] rfl h
def aN{P:Prop}(h:P:=by(cases(by assumption:some _=some _);exact adK adJ)):P:=h
def c0{N:Nat}{ids:List Nat}{env:av}{σ σ2:ah}{R:U}(a:List lI)(h:zM bu ids a σ2.ids fn.results.toList env σ=some (R,σ2):=by kernel_rfl):
  pn ⟨prog,N,ids,au⟩ fn (λb c=>b=R/\c=σ2) .ret env σ:=aFH fN a rfl h
def adN{f:FuncId}{c:Code}{a:ah}{args:List U}{Post:U->ah->Prop}(d:prog.funcs[f]?=some fn)(h:ar ⟨prog,fn.ntmps,a.ids,au⟩ c (pn ⟨prog,fn.ntmps,a.ids,au⟩ fn Post) (tc 0 args) a)
  (b:fn.body=some c:=by rfl) (e:Nat.ble args.length fn.ntmps=true:=by rfl):cz au prog f a args Post:=a5 d b e h
def cO{Q:Exit->av->ah->Prop}{env:av}{σ:ah}{c:Code}{S:Type}{l:List α}{B:Int->α->(S->Option aen)->S->Option aen}{K:S->Option aen}{e:S}(m:bC l 0 B K e=some r)(b:Nat->S->av)(a:Nat->S->ah)(f:cZ G env σ (b 0 e) (a 0 e))
  (h:∀(j:Nat) (x:α) (a4:S->Option aen) (s:S),0<=j->l[j]?=some x->B j x a4 s=some r->ar G c (l1 (λi g=>∃d,a4 d=some r/\cZ G i g (b (j+1) d) (a (j+1) d)) Q) (b j s) (a j s))
  (k:∀(j:Nat) (s:S),0<=j->l.length<=j->K s=some r->ar G c (l1 (λ_ _=>False) Q) (b j s) (a j s)):ar G (.loop c) Q env σ:=aF0 (l:=l) (oM:=0) m b a f h k
def cW{Q:Exit->av->ah->Prop}{env:av}{σ:ah}{x y:Code}(J:α->Option aen)(r:aen)(b:α->av)(a:α->ah)(h:ar G x (l1 (λd c=>∃g,J g=some r/\cZ G d c (b g) (a g)) Q) env σ)
  (k:∀g,J g=some r->ar G y Q (b g) (a g)):ar G (.seq x y) Q env σ:=A.J b a h k
variable {ah1 β:Type}{p:α->Option β}
def er{o:Option α}{k:α->β->Option ah1}{r:ah1}(h:(af o λa=>af (p a) (k a))=some r):∃a,o=some a/\∃b,p a=some b/\k a b=some r:=by
 obtain⟨a,c,h⟩:=az h;exact⟨a,c,az h⟩
def mT{d:Type}{o:Option α}{q:α->β->Option ah1}{k:α->β->ah1->Option d}{r:d}(h:(af o λa=>af (p a) λb=>af (q a b) (k a b))=some r):∃a,o=some a/\∃b,p a=some b/\∃c,q a b=some c/\k a b c=some r:=by
 obtain⟨a,e,h⟩:=az h;exact⟨a,e,er h⟩
end
abbrev eH(x:U)(s:ah):U->ah->Prop:=λa σ=>a=x/\σ=s
abbrev b4.s{α:Type}(T:TypeId)(e:e9 α)(l:List α):b4:=.slice T e.sz (bc e l) 0 false
abbrev U.d(p:Prop)[Decidable p]:U:=.bool (decide p)
abbrev b4.c(T:TypeId)(cs:List U):b4:=.cells T cs
abbrev H(n:Int):U:=.int .i64 n
abbrev an{α:Type}(e:e9 α)(l:List α):U:=.bn false (bc e l)
abbrev jl(x:bV):List U:=[.int .i64 x.aP,.bool x.bK]
abbrev dJ(x:bm):List U:=[.int .i64 x.A,.int .i64 x.B,.int .i64 x.iA,.int .i64 x.iq,.int .i64 x.fo]
abbrev bz(x:aS):List U:=[.bn false (bc bJ x.bf),.bn false (bc aW x.Links)]
abbrev cw(x:cu):List U:=[.bn false (bc aJ x.L),.int .i64 x.At]
abbrev nP(x:gG):List U:=[.bn false (bc iL x.Links),.bn false (bc aJ x.bf)]
abbrev e7(x:c4):List U:=[.int .i64 x.Mode,.int .i64 x.bA,.int .i64 x.Set,.int .i64 x.Length,.int .i64 x.e3,.int .i64 x.gh,.int .i64 x.gH,.int .i64 x.gJ,.int .u64 x.Bits,.str x.gN]
abbrev iK(x:cT):List U:=[.int .i64 x.ai,.int .i64 x.aP]
abbrev uD(x:fx):List U:=[.int .i64 x.bA,.int .i64 x.aP,.int .i64 x.Length]
abbrev nQ(x:c1):List U:=[.int .i64 x.ai,.int .i64 x.Claim.bA,.int .i64 x.Claim.aP,.int .i64 x.Claim.Length]
abbrev nR(x:ew):List U:=[.int .i64 x.ez,.int .i64 x.kW,.int .i64 x.fo]
abbrev ej(x:a6):List U:=[.int .i64 x.ai,.int .i64 x.Seq,.bool x.bK,.bn false (bc dO x.Links),.bn false (bc dL x.Claims)]
abbrev fZ(x:bM):List U:=[.bn false (bc cN x.bq)]
abbrev qV(x:cF):List U:=[.int .i64 x.dx,.int .i64 x.bS,.bn false (bc cN x.Database.bq)]
abbrev lb(x:eR):List U:=[.int .i64 x.aP,.bn false (bc aJ x.Next)]
abbrev eT(x:cH):List U:=[.int .i64 x.ai,.int .i64 x.bA,.int .i64 x.Length,.bn false (bc eL x.Rows)]
abbrev kQ(x:br):List U:=[.int .i64 x.ai,.int .i64 x.Seq,.bool x.bK,.bn false (bc dL x.Claims),.bn false (bc cN x.Database.bq)]
abbrev sx(x:dU):List U:=[.int .i64 x.ec,.int .i64 x.hU]
abbrev c6(x:aQ):List U:=[.bn false (bc aW x.Links),.bn false (bc bF x.aM),.bn false (bc b2 x.bg)]
abbrev fh(x:en):List U:=[.int .i64 x.bA,.int .i64 x.Length,.bn false (bc eM x.ck)]
abbrev qW(x:i6):List U:=[.bn false (bc aJ x.jS),.int .i64 x.cg.Mode,.int .i64 x.cg.bA,.int .i64 x.cg.Set,.int .i64 x.cg.Length,.int .i64 x.cg.e3,.int .i64 x.cg.gh,.int .i64 x.cg.gH,.int .i64 x.cg.gJ,.int .u64 x.cg.Bits,.str x.cg.gN]
abbrev w1(x:iU):List U:=[.int .i64 x.bS,.bn false (bc aJ x.Frame.jS),.int .i64 x.Frame.cg.Mode,.int .i64 x.Frame.cg.bA,.int .i64 x.Frame.cg.Set,.int .i64 x.Frame.cg.Length,.int .i64 x.Frame.cg.e3,.int .i64 x.Frame.cg.gh,.int .i64 x.Frame.cg.gH,.int .i64 x.Frame.cg.gJ,.int .u64 x.Frame.cg.Bits,.str x.Frame.cg.gN]
abbrev p0(x:jk):List U:=[.int .u64 x.Local,.int .u64 x.r4,.bn false (bc lp x.kT)]
abbrev IK(x:m1):List U:=[.int .i64 x.ai,.int .i64 x.cg.Mode,.int .i64 x.cg.bA,.int .i64 x.cg.Set,.int .i64 x.cg.Length,.int .i64 x.cg.e3,.int .i64 x.cg.gh,.int .i64 x.cg.gH,.int .i64 x.cg.gJ,.int .u64 x.cg.Bits,.str x.cg.gN]
abbrev qX(x:kU):List U:=[.bn false (bc iR x.iI),.bn false (bc q8 x.Ci),.bn false (bc o4 x.qf)]
abbrev PF(x:k7):List U:=[.int .i64 x.mA,.bn false (bc aJ x.gO.jS),.int .i64 x.gO.cg.Mode,.int .i64 x.gO.cg.bA,.int .i64 x.gO.cg.Set,.int .i64 x.gO.cg.Length,.int .i64 x.gO.cg.e3,.int .i64 x.gO.cg.gh,.int .i64 x.gO.cg.gH,.int .i64 x.gO.cg.gJ,.int .u64 x.gO.cg.Bits,.str x.gO.cg.gN]
abbrev mJ:=List bm
abbrev p6:=List c1
abbrev ri:=List br
abbrev sD:=List cF
abbrev td:=List a6
abbrev uX:=List bV
abbrev vr:=Option a6
abbrev yz:=List cH
abbrev zg:=List dU
abbrev zo:=List fx
abbrev zw:=List cT
abbrev BP:=List ew
abbrev B8:=List g8
abbrev Ew:=List c4
end
section
open Go
section
noncomputable section
def q6(l:bX)(n:Int):dw:=
 bC l 0 (λd c b (a:Unit)=>match a with|()=>bif decide (c=n)then some true else b ()) (λ(a:Unit)=>match a with|()=>some false) ()
def Bs(l:bX)(n:Int):jK:=
 gu (λg (a:Int)=>jn (λ(h:Bool)=>bif h then g (a2 (a+1))else jn (λ(j:Bool)=>bif j then some l else af (hB l 0 a) λf=>af (dm [] f) λd=>af (dm d [n]) λk=>af (hB l a (l.length:Int)) λm=>af (dm k m) λo=>some o) λb=>(bif decide (a<(l.length:Int))then af (b6 l a) λi=>b (decide (i=n))else b false)) λc=>(bif decide (a<(l.length:Int))then af (b6 l a) λe=>c (decide (e<n))else c false)) 0
def xV(a:bX)(b:bX):dw:=
 bif !decide ((a.length:Int)=(b.length:Int))then some false else bC a 0 (λd g f (c:Unit)=>match c with|()=>af (b6 b d) λe=>bif !decide (g=e)then some false else f ()) (λ(c:Unit)=>match c with|()=>some true) ()
end
end
section
noncomputable section
def BI(n:Int):dw:=
 some ((decide (1<=n))&&(decide (n<=1000)))
def uR(t:aS)(c:Int):dw:=
 bC t.bf 0 (λe d b (a:Unit)=>match a with|()=>bif decide (d.aP=c)then some true else b ()) (λ(a:Unit)=>match a with|()=>some false) ()
def Bu(t:aS)(d:Int)(c:Int):Option (Int×Bool):=
 bC t.Links 0 (λf a e (b:Unit)=>match b with|()=>bif ((decide (a.A=d))&&(decide (a.B=c)))then some (a.iA,true)else bif ((decide (a.B=d))&&(decide (a.A=c)))then some (a.iq,true)else e ()) (λ(b:Unit)=>match b with|()=>some (0,false)) ()
def xP(t:aS):ir:=
 bif ((decide (24<(t.bf.length:Int)))||(decide (60<(t.Links.length:Int))))then some 3 else bC t.bf 0 (λA i n (a:Unit)=>match a with|()=>bif ((decide (i.aP<1))||(decide (99<i.aP)))then some 2 else n ()) (λ(a:Unit)=>match a with|()=>bC (List.drop 1 t.bf) 1 (λq z s (a:Unit)=>match a with|()=>af (b6 t.bf (a2 (q-1))) λm=>bif decide (z.aP<=m.aP)then some 25 else s ()) (λ(a:Unit)=>match a with|()=>bC t.Links 0 (λB c u (a:Unit)=>match a with|()=>jn (λ(p:Bool)=>bif p then some 2 else u ()) λb=>af (BI c.iA) λl=>(bif !l then b true else af (BI c.iq) λj=>(bif !j then b true else(bif decide (c.fo<0)then b true else b (decide (1000<c.fo)))))) (λ(a:Unit)=>match a with|()=>bC t.Links 0 (λC g w (a:Unit)=>match a with|()=>jn (λ(r:Bool)=>bif r then some 4 else w ()) λf=>af (uR t g.A) λk=>(bif !k then f true else af (uR t g.B) λo=>f (!o))) (λ(a:Unit)=>match a with|()=>bC t.Links 0 (λD h x (a:Unit)=>match a with|()=>bif decide (h.B<=h.A)then some 8 else x ()) (λ(a:Unit)=>match a with|()=>bC (List.drop 1 t.Links) 1 (λv e y (a:Unit)=>match a with|()=>af (b6 t.Links (a2 (v-1))) λd=>bif ((decide (e.A<d.A))||((decide (d.A=e.A))&&(decide (e.B<=d.B))))then some 25 else y ()) (λ(a:Unit)=>match a with|()=>some 0) ()) ()) ()) ()) ()) ()
def yZ(a:Int)(n:Int):ir:=
 bif decide (n<1)then some 0 else eD (decide (n≠0))<|jn (λc=>some c) λb=>bif decide (Int.tmod a n<0)then b (a2 ((Int.tmod a n)+n))else b (Int.tmod a n)
def uM(t:cu):Option (Int×cu):=
 bif decide ((t.L.length:Int)<=t.At)then some (0,t)else af (b6 t.L (a2 ((a2 (t.At+1))-1))) λa=>some (a,(cu.mk t.L (a2 (t.At+1))))
def h7(t:cu)(n:Int):Option (Int×cu):=
 af (uM t) λa=>af (yZ a.1 n) λb=>some (b,a.2)
def oN(t:cu)(low:Int)(high:Int):Option (Int×cu):=
 af (h7 t (a2 ((a2 (high-low))+1))) λa=>some (a2 (low+a.1),a.2)
end
end
section
noncomputable section
def x3(t:aS)(c:Int):dw:=
 af (xP t) λb=>(bif decide (b=0)then af (uR t c) λa=>some a else some false)
def BJ(t:aS)(h:Int):jK:=
 bC t.bf 0 (λi c f (a:(bX))=>jn (λ(g:(bX))=>f g) λb=>af (Bu t h c.aP) λd=>bif d.2 then af (dm a [c.aP]) λe=>b e else b a) (λ(a:(bX))=>some a) []
def Bv(l:List j0)(a:Int)(b:Int):dw:=
 bC l 0 (λf c e (d:Unit)=>match d with|()=>bif (bif decide (c.dx=a)then((decide (c.bS=b))||((decide (c.dx=b))&&(decide (c.bS=a))))else((decide (c.dx=b))&&(decide (c.bS=a))))then some true else e ()) (λ(d:Unit)=>match d with|()=>some false) ()
def Bf(t:aS)(f:gG):Option aS:=
 af (xP t) λk=>bif !decide (k=0)then some (aS.mk [] [])else bC t.bf 0 (λv h o (b:(uX))=>jn (λ(r:(uX))=>o r) λg=>af (q6 f.bf h.aP) λi=>bif !i then af (dm b [h]) λn=>g n else g b) (λ(b:(uX))=>bC t.Links 0 (λw a u (c:(mJ))=>jn (λ(s:(mJ))=>u s) λe=>jn (λ(q:Bool)=>bif q then af (dm c [a]) λl=>e l else e c) λd=>af (q6 f.bf a.A) λj=>(bif !j then af (q6 f.bf a.B) λp=>(bif !p then af (Bv f.Links a.A a.B) λm=>d (!m)else d false)else d false)) (λ(c:(mJ))=>some (aS.mk b c)) []) []
def Bh(t:aS)(q:Int):jK:=
 gu (λm (j:(bX)×Int)=>match j with|(b,d)=>bif decide (d<(b.length:Int))then af (b6 b d) λk=>af (BJ t k) λi=>bC i 0 (λs f o (a:(bX))=>jn (λ(p:(bX))=>o p) λe=>af (q6 a f) λg=>bif !g then af (dm a [f]) λl=>e l else e a) (λ(a:(bX))=>m (a,a2 (d+1))) b else bC b 0 (λu n r (c:(bX))=>af (Bs c n) λh=>r h) (λc=>some c) []) ([q],0)
def AU(t:aS)(a:Int)(b:Int):dw:=
 af (x3 t a) λe=>(bif e then af (x3 t b) λc=>(bif c then af (Bh t a) λd=>af (q6 d b) λf=>some f else some false)else some false)
end
end
section
noncomputable section
def p2(t:cu)(l:bX):Option (Int×cu):=
 af (h7 t (l.length:Int)) λa=>af (b6 l a.1) λb=>some (b,a.2)
def uN(t:cu)(n:Int):Option (Bool×cu):=
 af (h7 t n) λa=>some (decide (a.1=a2 (n-1)),a.2)
def xg(t:cu):Option (Int×cu):=
 af (p2 t [8,8,16,32,64]) λa=>some (a.1,a.2)
def yu(l:mJ):Option (List bm):=
 bC l 0 (λo d h (a:(mJ))=>gu (λj (b:Int)=>jn (λ(i:Bool)=>bif i then j (a2 (b+1))else af (hB a 0 b) λg=>af (dm [] g) λf=>af (dm f [d]) λk=>af (hB a b (a.length:Int)) λm=>af (dm k m) λn=>h n) λc=>(bif decide (b<(a.length:Int))then af (b6 a b) λe=>(bif decide (e.A<d.A)then c true else(bif decide (e.A=d.A)then c (decide (e.B<d.B))else c false))else c false)) 0) (λ(a:(mJ))=>some a) []
def y0(l:bX):Option cu:=
 jn (λc=>some (cu.mk c 0)) λa=>bif decide (600<(l.length:Int))then af (hB l 0 600) λb=>a b else a l
def AJ(t:cu)(J:Int):Option (aS×cu):=
 af (oN t 1 J) λb=>eD (decide ((b.1+1)<=9223372036854775807))<|iD ((b.1+1)-1).toNat 1 (λs B (h:(uX))=>af (dm h [(bV.mk s true)]) λA=>B A) (λs (h:(uX))=>af (p2 b.2 [1,2,2,5]) λf=>eD (decide ((b.1+1)<=9223372036854775807))<|iD ((b.1+1)-2).toNat 2 (λc D (a:(mJ)×(bX)×Int)=>match a with|(n,j,o)=>af (oN (cu.mk j o) 1 (a2 (c-1))) λr=>af (uN r.2 9) λm=>eD (decide (c<=9223372036854775807))<|iD (c-1).toNat 1 (λp H (a:(mJ)×(bX)×Int)=>match a with|(g,d,e)=>jn (λ(a:(bX)×Int×(mJ))=>match a with|(F,G,I)=>H (I,F,G)) λu=>jn (λ(a:Bool×(bX)×Int)=>match a with|(C,x,y)=>bif C then af (oN (cu.mk x y) 1 f.1) λw=>af (oN w.2 1 f.1) λv=>af (h7 v.2 4) λq=>af (dm g [(bm.mk p c w.1 v.1 q.1)]) λz=>u (q.2.L,q.2.At,z)else u (x,y,g)) λi=>(bif decide (p=r.1)then(bif !m.1 then i (true,d,e)else af (uN (cu.mk d e) 3) λk=>i (k.1,k.2.L,k.2.At))else af (uN (cu.mk d e) 3) λl=>i (l.1,l.2.L,l.2.At))) (λp (a:(mJ)×(bX)×Int)=>match a with|(g,d,e)=>D (g,d,e)) (n,m.2.L,m.2.At)) (λc (a:(mJ)×(bX)×Int)=>match a with|(n,j,o)=>af (yu n) λE=>some ((aS.mk h E),(cu.mk j o))) ([],f.2.L,f.2.At)) []
def xh(t:cu)(g:aS):Option (Int×cu):=
 bif decide ((g.bf.length:Int)=0)then none else af (h7 t (g.bf.length:Int)) λa=>af (b6 g.bf a.1) λb=>some (b.aP,a.2)
def AV(t:cu)(g:aS):Option (gG×cu):=
 jn (λ(j:Bool×(bX)×Int)=>match j with|(k,c,e)=>bif k then af (h7 (cu.mk c e) (g.Links.length:Int)) λf=>af (b6 g.Links f.1) λa=>af (h7 f.2 2) λb=>bif decide (b.1=0)then some ((gG.mk [(j0.mk a.B a.A)] []),b.2)else some ((gG.mk [(j0.mk a.A a.B)] []),b.2)else bif decide ((g.bf.length:Int)=0)then some ((gG.mk [] []),(cu.mk c e))else af (h7 (cu.mk c e) (g.bf.length:Int)) λi=>af (b6 g.bf i.1) λl=>some ((gG.mk [] [l.aP]),i.2)) λh=>(bif decide (0<(g.Links.length:Int))then af (h7 t 3) λd=>h (decide (0<d.1),d.2.L,d.2.At)else h (false,t.L,t.At))
end
end
section
noncomputable section
def xC(a:Int):dw:=
 some (!decide (a=a))
def j4(a:Int)(y:Int):ir:=
 af (xC a) λc=>af (xC y) λb=>bif c then bif b then some 0 else some (-1)else bif b then some 1 else bif decide (a<y)then some (-1)else bif decide (y<a)then some 1 else some 0
def q4(d:bX):ir:=
 bC d 0 (λe b c (a:Unit)=>match a with|()=>bif !decide (b=0)then some b else c ()) (λ(a:Unit)=>match a with|()=>some 0) ()
def wO(c:uX)(e:Int)(f:bV->Int->ir):Option (Int×Bool):=
 gu (λd (i:Int×Int)=>match i with|(a,b)=>bif decide (a<b)then af (b6 c (a2 (Int.fdiv (IntKind.wrap .u64 (a2 (a+b))) (2 ^ min (1:Int).toNat 64)))) λj=>af (f j e) λh=>bif decide (h<0)then d (a2 ((a2 (Int.fdiv (IntKind.wrap .u64 (a2 (a+b))) (2 ^ min (1:Int).toNat 64)))+1),b)else d (a,a2 (Int.fdiv (IntKind.wrap .u64 (a2 (a+b))) (2 ^ min (1:Int).toNat 64)))else(bif decide (a<(c.length:Int))then af (b6 c a) λk=>af (f k e) λg=>some (a,decide (g=0))else some (a,false))) (0,(c.length:Int))
def DS(d:Ew)(f:c4->dw):ir:=
 bC d 0 (λc g e (a:Unit)=>match a with|()=>af (f g) λb=>bif b then some c else e ()) (λ(a:Unit)=>match a with|()=>some (-1)) ()
def An(c:zw)(v:cT):ir:=
 bC c 0 (λb e d (a:Unit)=>match a with|()=>bif vv v e then some b else d ()) (λ(a:Unit)=>match a with|()=>some (-1)) ()
def Ad(d:p6)(f:c1->dw):ir:=
 bC d 0 (λc g e (a:Unit)=>match a with|()=>af (f g) λb=>bif b then some c else e ()) (λ(a:Unit)=>match a with|()=>some (-1)) ()
def DR(d:sD)(f:cF->dw):ir:=
 bC d 0 (λc g e (a:Unit)=>match a with|()=>af (f g) λb=>bif b then some c else e ()) (λ(a:Unit)=>match a with|()=>some (-1)) ()
def z3(c:mJ)(e:bm)(f:bm->bm->ir):Option (Int×Bool):=
 gu (λd (i:Int×Int)=>match i with|(a,b)=>bif decide (a<b)then af (b6 c (a2 (Int.fdiv (IntKind.wrap .u64 (a2 (a+b))) (2 ^ min (1:Int).toNat 64)))) λj=>af (f j e) λh=>bif decide (h<0)then d (a2 ((a2 (Int.fdiv (IntKind.wrap .u64 (a2 (a+b))) (2 ^ min (1:Int).toNat 64)))+1),b)else d (a,a2 (Int.fdiv (IntKind.wrap .u64 (a2 (a+b))) (2 ^ min (1:Int).toNat 64)))else(bif decide (a<(c.length:Int))then af (b6 c a) λk=>af (f k e) λg=>some (a,decide (g=0))else some (a,false))) (0,(c.length:Int))
def Ee(d:bX)(f:Int->dw):ir:=
 bC d 0 (λc g e (a:Unit)=>match a with|()=>af (f g) λb=>bif b then some c else e ()) (λ(a:Unit)=>match a with|()=>some (-1)) ()
def DT(d:uX)(f:bV->dw):ir:=
 bC d 0 (λc g e (a:Unit)=>match a with|()=>af (f g) λb=>bif b then some c else e ()) (λ(a:Unit)=>match a with|()=>some (-1)) ()
def DX(d:mJ)(f:bm->dw):ir:=
 bC d 0 (λc g e (a:Unit)=>match a with|()=>af (f g) λb=>bif b then some c else e ()) (λ(a:Unit)=>match a with|()=>some (-1)) ()
def DW(d:yz)(f:cH->dw):ir:=
 bC d 0 (λc g e (a:Unit)=>match a with|()=>af (f g) λb=>bif b then some c else e ()) (λ(a:Unit)=>match a with|()=>some (-1)) ()
def wS(d:zw)(f:cT->dw):ir:=
 bC d 0 (λc g e (a:Unit)=>match a with|()=>af (f g) λb=>bif b then some c else e ()) (λ(a:Unit)=>match a with|()=>some (-1)) ()
def DY(d:ri)(f:br->dw):ir:=
 bC d 0 (λc g e (a:Unit)=>match a with|()=>af (f g) λb=>bif b then some c else e ()) (λ(a:Unit)=>match a with|()=>some (-1)) ()
def AB(c:bX)(v:Int):ir:=
 bC c 0 (λb e d (a:Unit)=>match a with|()=>bif decide (v=e)then some b else d ()) (λ(a:Unit)=>match a with|()=>some (-1)) ()
def DU(d:td)(f:a6->dw):ir:=
 bC d 0 (λc g e (a:Unit)=>match a with|()=>af (f g) λb=>bif b then some c else e ()) (λ(a:Unit)=>match a with|()=>some (-1)) ()
def D4(d:List eR)(f:eR->dw):ir:=
 bC d 0 (λc g e (a:Unit)=>match a with|()=>af (f g) λb=>bif b then some c else e ()) (λ(a:Unit)=>match a with|()=>some (-1)) ()
def z8(c:td)(e:Int)(f:a6->Int->ir):Option (Int×Bool):=
 gu (λd (i:Int×Int)=>match i with|(a,b)=>bif decide (a<b)then af (b6 c (a2 (Int.fdiv (IntKind.wrap .u64 (a2 (a+b))) (2 ^ min (1:Int).toNat 64)))) λj=>af (f j e) λh=>bif decide (h<0)then d (a2 ((a2 (Int.fdiv (IntKind.wrap .u64 (a2 (a+b))) (2 ^ min (1:Int).toNat 64)))+1),b)else d (a,a2 (Int.fdiv (IntKind.wrap .u64 (a2 (a+b))) (2 ^ min (1:Int).toNat 64)))else(bif decide (a<(c.length:Int))then af (b6 c a) λk=>af (f k e) λg=>some (a,decide (g=0))else some (a,false))) (0,(c.length:Int))
def Aa(b:Ew)(f:c4->dw):dw:=
 af (DS b f) λa=>some (decide (0<=a))
def Ag(b:zw)(v:cT):dw:=
 af (An b v) λa=>some (decide (0<=a))
def sp(b:p6)(f:c1->dw):dw:=
 af (Ad b f) λa=>some (decide (0<=a))
def su(b:bX)(f:Int->dw):dw:=
 af (Ee b f) λa=>some (decide (0<=a))
def Ab(b:uX)(f:bV->dw):dw:=
 af (DT b f) λa=>some (decide (0<=a))
def ux(b:mJ)(f:bm->dw):dw:=
 af (DX b f) λa=>some (decide (0<=a))
def uw(b:yz)(f:cH->dw):dw:=
 af (DW b f) λa=>some (decide (0<=a))
def qK(b:zw)(f:cT->dw):dw:=
 af (wS b f) λa=>some (decide (0<=a))
def oG(b:bX)(v:Int):dw:=
 af (AB b v) λa=>some (decide (0<=a))
def Ac(b:td)(f:a6->dw):dw:=
 af (DU b f) λa=>some (decide (0<=a))
def nF(b:List eR)(f:eR->dw):dw:=
 af (D4 b f) λa=>some (decide (0<=a))
def sI(n:Int)(a:Int)(b:Int):dw:=
 some ((decide (a<=n))&&(decide (n<=b)))
def xc(a:bm)(b:bm):ir:=
 af (j4 a.A b.A) λe=>af (j4 a.B b.B) λc=>af (q4 [e,c]) λd=>some d
def xD(b:bV)(id:Int):ir:=
 af (j4 b.aP id) λa=>some a
def EJ(b:bV):dw:=
 af (sI b.aP 1 99) λa=>some (!a)
def AK(l:bm):dw:=
 af (sI l.iA 1 1000) λc=>(bif !c then some true else af (sI l.iq 1 1000) λa=>(bif !a then some true else af (sI l.fo 0 1000) λb=>some (!b)))
def xd(id:Int)(b:aS):dw:=
 af (wO b.bf id xD) λa=>some (!a.2)
def EK(l:bm)(a:aS):dw:=
 af (xd l.A a) λc=>(bif c then some true else af (xd l.B a) λb=>some b)
def EL(l:bm):dw:=
 some (decide (l.B<=l.A))
def k6(t:aS):ir:=
 bif ((decide (24<(t.bf.length:Int)))||(decide (60<(t.Links.length:Int))))then some 3 else af (Ab t.bf EJ) λh=>bif h then some 2 else bC t.bf 0 (λb r k (a:Unit)=>match a with|()=>jn (λ(m:Bool)=>bif m then some 25 else k ()) λd=>(bif decide (0<b)then af (b6 t.bf (a2 (b-1))) λj=>d (decide (r.aP<=j.aP))else d false)) (λ(a:Unit)=>match a with|()=>af (ux t.Links AK) λf=>bif f then some 2 else af (ux t.Links (λ(p:bm)=>EK p t)) λg=>bif g then some 4 else af (ux t.Links EL) λl=>bif l then some 8 else bC t.Links 0 (λe s q (a:Unit)=>match a with|()=>jn (λ(o:Bool)=>bif o then some 25 else q ()) λc=>(bif decide (0<e)then af (b6 t.Links (a2 (e-1))) λn=>af (xc n s) λi=>c (decide (0<=i))else c false)) (λ(a:Unit)=>match a with|()=>some 0) ()) ()
def sC(t:aS):dw:=
 af (k6 t) λa=>some (decide (a=0))
def xE(t:aS)(c:Int):Option (bV×Bool):=
 af (wO t.bf c xD) λa=>bif !a.2 then some ((bV.mk 0 false),false)else af (b6 t.bf a.1) λb=>some (b,true)
def lM(t:aS)(c:Int):dw:=
 af (xE t c) λb=>af (sC t) λa=>(bif a then some b.2 else some false)
def hW(t:aS)(c:Int):dw:=
 af (xE t c) λb=>af (sC t) λa=>(bif a then some b.1.bK else some false)
def uH(t:aS)(b:Int)(a:Int):Option (Int×Bool):=
 af (sC t) λd=>bif !d then some (0,false)else af (z3 t.Links (bm.mk (if a<b then a else b) (if a>b then a else b) 0 0 0) xc) λc=>bif !c.2 then some (0,false)else bif decide (b<a)then af (b6 t.Links c.1) λe=>some (e.iA,true)else af (b6 t.Links c.1) λf=>some (f.iq,true)
end
end
section
noncomputable section
def Jd(d:Int):ir:=
 jn (λ(a:Int×Int)=>match a with|(c,g)=>jn (λ(a:Int×Int)=>match a with|(b,i)=>jn (λ(a:Int×Int)=>match a with|(j,l)=>af (II Pu (IntKind.wrap .u8 j)) λ(k:UInt8)=>some (a2 (l+(a2 (k.toNat:Int))))) λh=>bif decide (256<=b)then h (Int.fdiv b (2 ^ min (8:Int).toNat 64),a2 (i+8))else h (b,i)) λe=>bif decide (65536<=c)then e (Int.fdiv c (2 ^ min (16:Int).toNat 64),a2 (g+16))else e (c,g)) λf=>bif decide (4294967296<=d)then f (Int.fdiv d (2 ^ min (32:Int).toNat 64),32)else f (d,0)
def Fu(b:Int):ir:=
 af (Jd b) λa=>some a
def IP: Option Unit:=
 gu (λb (a:Unit)=>match a with|()=>some ()) ()
def IW(d:Int):Option Unit:=
 gu (λc (a:Unit)=>match a with|()=>af (IP) λb=>some ()) ()
def PW: Option Unit:=
 af (Fu 0) λa=>af (IW a) λb=>some ()
end
end
section
noncomputable section
def w3(t:aS)(d:Int):jK:=
 bC t.Links 0 (λi b g (a:(bX))=>jn (λ(h:(bX))=>g h) λc=>bif decide (d=b.A)then af (dm a [b.B]) λf=>c f else bif decide (d=b.B)then af (dm a [b.A]) λe=>c e else c a) (λ(a:(bX))=>eD (decide (a.length<4611686018427387904))<|some (hS a)) []
def xb:Nat->Int->(bX)->(bX)->(uX)->(mJ)->jK
 |0,_,_,_,_,_=>none
 |o+1,a,c,e,f,g=>jn (λ(n:Bool)=>bif n then some c else af (dm c ([a]:bX)) λ(k:bX)=>af (w3 (aS.mk f g) a) λ(i:(bX))=>bC i 0 (λ(q:Int) (p:Int) (l:(bX)->Option _) (b:(bX))=>af (xb o p b e f g) λ(m:(bX))=>l m) (λ(b:(bX))=>some b) k) λd=>af (oG c a) λ(j:Bool)=>(bif j then d true else af (oG e a) λ(h:Bool)=>d h)
def AL(t:aS)(b:Int)(c:bX):jK:=
 af (xb fuel b [] c t.bf t.Links) λa=>eD (decide (a.length<4611686018427387904))<|some (hS a)
def AG(t:aS)(c:Int):jK:=
 af (sC t) λb=>bif !b then some []else af (w3 t c) λa=>some a
def w6(t:aS)(a:Int)(b:Int):dw:=
 af (lM t a) λe=>(bif e then af (lM t b) λc=>(bif c then af (AL t a []) λd=>af (oG d b) λf=>some f else some false)else some false)
end
end
section
noncomputable section
def Ez(n:Int):dw:=
 some ((decide (n=8))||((decide (n=16))||((decide (n=32))||(decide (n=64)))))
end
end
section
noncomputable section
def EO(a:bV)(b:bV):ir:=
 af (j4 a.aP b.aP) λc=>some c
def EP(a:bm)(b:bm):ir:=
 af (j4 a.A b.A) λe=>af (j4 a.B b.B) λc=>af (q4 [e,c]) λd=>some d
def ER(a:dU)(b:dU):ir:=
 af (j4 a.ec b.ec) λc=>some c
def ES(a:cT)(b:cT):ir:=
 af (j4 a.aP b.aP) λc=>some c
end
end
section
noncomputable section
def nH(n:Int):dw:=
 some ((decide (n=8))||((decide (n=16))||((decide (n=32))||(decide (n=64)))))
def p5(n:Int)(a:Int)(b:Int):dw:=
 some ((decide (a<=n))&&(decide (n<=b)))
def q1(a:a6):dw:=
 jn (λ(r:Bool)=>bif r then some false else bC a.Links 0 (λh e p (b:Unit)=>match b with|()=>jn (λ(u:Bool)=>bif u then some false else p ()) λc=>af (p5 e.ez 1 99) λk=>(bif !k then c true else(bif decide (e.ez=a.ai)then c true else af (p5 e.kW 1 1000) λq=>(bif !q then c true else af (p5 e.fo 0 1000) λm=>(bif !m then c true else(bif decide (0<h)then af (b6 a.Links (a2 (h-1))) λo=>c (decide (e.ez<=o.ez))else c false)))))) (λ(b:Unit)=>match b with|()=>bC a.Claims 0 (λi g w (b:Unit)=>match b with|()=>jn (λ(x:Bool)=>bif x then some false else w ()) λd=>af (p5 g.bA 0 7) λn=>(bif !n then d true else af (p5 g.aP 1 256) λv=>(bif !v then d true else af (nH g.Length) λt=>(bif !t then d true else(bif decide (0<i)then af (b6 a.Claims (a2 (i-1))) λs=>d (decide (g.bA<=s.bA))else d false))))) (λ(b:Unit)=>match b with|()=>some true) ()) ()) λf=>af (p5 a.ai 1 99) λl=>(bif !l then f true else af (p5 a.Seq 1 1000000) λj=>(bif !j then f true else(bif decide (23<(a.Links.length:Int))then f true else f (decide (8<(a.Claims.length:Int))))))
def Az(a:BP)(b:BP):dw:=
 bif !decide ((a.length:Int)=(b.length:Int))then some false else bC a 0 (λd g f (c:Unit)=>match c with|()=>af (b6 b d) λe=>bif !(sT g e)then some false else f ()) (λ(c:Unit)=>match c with|()=>some true) ()
def AA(a:zo)(b:zo):dw:=
 bif !decide ((a.length:Int)=(b.length:Int))then some false else bC a 0 (λd g f (c:Unit)=>match c with|()=>af (b6 b d) λe=>bif !(sS g e)then some false else f ()) (λ(c:Unit)=>match c with|()=>some true) ()
def DP(s1:td)(b:td)(h:a6->a6->dw):dw:=
 bif !decide ((s1.length:Int)=(b.length:Int))then some false else bC s1 0 (λd g f (a:Unit)=>match a with|()=>af (b6 b d) λe=>af (h g e) λc=>bif !c then some false else f ()) (λ(a:Unit)=>match a with|()=>some true) ()
def sJ(a:a6)(b:a6):dw:=
 (bif decide (a.ai=b.ai)then(bif decide (a.Seq=b.Seq)then(bif (a.bK==b.bK)then af (Az a.Links b.Links) λd=>(bif d then af (AA a.Claims b.Claims) λc=>some c else some false)else some false)else some false)else some false)
def Ap(a:mJ):Option (List bm):=
 af (dm [] a) λb=>some b
def PO: Option (List bm):=
 af (dm [] []) λa=>some a
def qJ(s:mJ):Option (List bm):=Ap s
def Ae(a:zo):Option (List fx):=
 af (dm [] a) λb=>some b
def PM: Option (List fx):=
 af (dm [] []) λa=>some a
def uy(s:zo):Option (List fx):=Ae s
def Ax(a:bX):jK:=
 af (dm [] a) λb=>some b
def P6: jK:=
 af (dm [] []) λa=>some a
def wY(s:bX):jK:=Ax s
def Af(a:BP):Option (List ew):=
 af (dm [] a) λb=>some b
def PN: Option (List ew):=
 af (dm [] []) λa=>some a
def wT(s:BP):Option (List ew):=Af s
def qS(a:a6):vr:=
 af (wT a.Links) λc=>af (uy a.Claims) λb=>some (a6.mk a.ai a.Seq a.bK c b)
def EM(a:a6):dw:=
 af (q1 a) λb=>some (!b)
def pZ(d:bM):ir:=
 bif decide (99<(d.bq.length:Int))then some 3 else af (Ac d.bq EM) λe=>bif e then some 1 else bC d.bq 0 (λb i g (a:Unit)=>match a with|()=>jn (λ(h:Bool)=>bif h then some 25 else g ()) λc=>(bif decide (0<b)then af (b6 d.bq (a2 (b-1))) λf=>c (decide (i.ai<=f.ai))else c false)) (λ(a:Unit)=>match a with|()=>some 0) ()
def xF(a:bM)(b:bM):dw:=
 af (DP a.bq b.bq sJ) λc=>some c
def qY(d:bM)(f:Int):Option (a6×Bool):=
 bC d.bq 0 (λg b e (a:Unit)=>match a with|()=>bif decide (b.ai=f)then af (qS b) λc=>some (c,true)else e ()) (λ(a:Unit)=>match a with|()=>some ((a6.mk 0 0 false [] []),false)) ()
def A3(a:a6)(e:Int):Option (ew×Bool):=
 bC a.Links 0 (λf c d (b:Unit)=>match b with|()=>bif decide (c.ez=e)then some (c,true)else d ()) (λ(b:Unit)=>match b with|()=>some ((ew.mk 0 0 0),false)) ()
def pX(d:bM)(t:Int):Option aS:=
 af (qY d t) λn=>jn (λ(B:Bool)=>bif B then some (aS.mk [] [])else gu (λA (b:(td)×(uX)×(mJ)×(List (Int×Bool)))=>match b with|(l,m,p,x)=>bif decide (0<(l.length:Int))then af (b6 l 0) λe=>af (dm m [(bV.mk e.ai e.bK)]) λz=>bC e.Links 0 (λI j D (b:(td)×(mJ)×(List (Int×Bool)))=>match b with|(f,g,c)=>jn (λ(b:(td)×(List (Int×Bool))×(mJ))=>match b with|(H,C,E)=>D (H,E,C)) λk=>af (qY d j.ez) λa=>af (A3 a.1 e.ai) λi=>bif ((!a.2)||(!i.2))then k (f,c,g)else jn (λ(r:(mJ))=>bif !((aO c a.1.ai).getD false)then af (dm f [a.1]) λF=>k (F,bW c a.1.ai true,r)else k (f,c,r)) λq=>bif decide (e.ai<a.1.ai)then af (dm g [(bm.mk e.ai a.1.ai j.kW i.1.kW (if i.1.fo<j.fo then i.1.fo else j.fo))]) λw=>q w else q g) (λ(b:(td)×(mJ)×(List (Int×Bool)))=>match b with|(f,g,c)=>af (hB f 1 (f.length:Int)) λG=>A (G,z,g,c)) (l,p,x)else af (kg (eF [λh:bV=>h.aP]) m) λs=>af (kg (eF [λh:bm=>h.A,λh:bm=>h.B]) p) λu=>af (k6 (aS.mk s u)) λy=>bif !decide (y=0)then some (aS.mk [] [])else some (aS.mk s u)) ([n.1],[],[],bW [] t true)) λo=>af (pZ d) λv=>(bif !decide (v=0)then o true else o (!n.2))
def sy(d:bM)(l:Int):Option (List c1):=
 af (pX d l) λg=>bC g.bf 0 (λn c i (a:(p6))=>jn (λ(j:(p6))=>i j) λe=>bif !c.bK then e a else af (qY d c.aP) λf=>bC f.1.Claims 0 (λo m k (b:(p6))=>af (dm b [(c1.mk c.aP m)]) λh=>k h) (λ(b:(p6))=>e b) a) (λ(a:(p6))=>some a) []
end
end
section
noncomputable section
def Bw(n:Int):ir:=
 some (a2 (Int.tdiv (a2 (n+7)) 8))
def xQ(a:e4):dw:=
 jn (λ(e:Bool)=>bif e then some false else(bif decide (a2 ((a2 (8*(a.Data.length:Int)))-a.Bits)=0)then some true else af (b6 a.Data (a2 ((a.Data.length:Int)-1))) λd=>eD (decide (0<=a2 (8-(a2 ((a2 (8*(a.Data.length:Int)))-a.Bits)))))<|some (decide (IntKind.wrap .u8 (d*2 ^ min (a2 (8-(a2 ((a2 (8*(a.Data.length:Int)))-a.Bits)))).toNat 8)=0)))) λb=>(bif decide (a.Bits<0)then b true else(bif decide (8192<a.Bits)then b true else af (Bw a.Bits) λc=>b (!decide ((a.Data.length:Int)=c))))
def BQ(a:e4)(i:Int):ir:=
 af (b6 a.Data (a2 (Int.tdiv i 8))) λb=>eD (decide (0<=a2 (7-(Int.tmod i 8))))<|some (IntKind.wrap .u64 (bT .and .u8 (Int.fdiv b (2 ^ min (a2 (7-(Int.tmod i 8))).toNat 8)) 1))
def Bx(g:e4)(m:Int)(n:Int):Option e4:=
 gu (λl (f:Int×(bX)×Int)=>match f with|(a,c,e)=>bif decide (0<a)then jn (λ(f:Int×(bX))=>match f with|(b,d)=>eD (decide (0<=a2 (a-(if b<a then b else a))))<|eD (decide (0<=(if b<a then b else a)))<|af (b6 d (a2 ((d.length:Int)-1))) λj=>eD (decide (0<=a2 (b-(if b<a then b else a))))<|af (gB d (a2 ((d.length:Int)-1)) (bT .or .u8 j (IntKind.wrap .u8 (IntKind.wrap .u64 ((bT .and .u64 (Int.fdiv m (2 ^ min (a2 (a-(if b<a then b else a))).toNat 64)) (IntKind.wrap .u64 ((IntKind.wrap .u64 (1*2 ^ min (if b<a then b else a).toNat 64))-1)))*2 ^ min (a2 (b-(if b<a then b else a))).toNat 64))))) λi=>l (a2 (a-(if b<a then b else a)),i,a2 (e+(if b<a then b else a)))) λh=>bif decide (a2 ((a2 (8*(c.length:Int)))-e)=0)then af (dm c [0]) λk=>h (8,k)else h (a2 ((a2 (8*(c.length:Int)))-e),c)else some (e4.mk c e)) (n,g.Data,g.Bits)
def Fa(a:e4):Option e4:=
 af (dm [] a.Data) λb=>some (e4.mk b a.Bits)
def Bj(b:e4)(c:Int)(n:Int):Option (e4×Int):=
 af (xQ b) λf=>bif !f then some ((e4.mk [] 0),1)else jn (λ(g:Bool)=>bif g then some ((e4.mk [] 0),2)else bif decide (8192<a2 (b.Bits+n))then some ((e4.mk [] 0),3)else af (Fa b) λd=>af (Bx d c n) λe=>some (e,0)) λa=>(bif decide (n<0)then a true else(bif decide (64<n)then a true else(bif decide (n<64)then eD (decide (0<=n))<|a (!decide (Int.fdiv c (2 ^ min n.toNat 64)=0))else a false)))
def By(b:e4):Option (Int×Int):=
 af (xQ b) λf=>bif !f then some (0,1)else eD (decide (b.Bits<=9223372036854775807))<|iD (b.Bits-0).toNat 0 (λc g (a:Int)=>jn (λ(h:Int)=>g h) λd=>af (BQ b c) λe=>bif decide (Int.fdiv a (2 ^ min (15:Int).toNat 64)=e)then d (bT .and .u64 (IntKind.wrap .u64 (a*2 ^ min (1:Int).toNat 64)) 65535)else d (bT .xor .u64 (bT .and .u64 (IntKind.wrap .u64 (a*2 ^ min (1:Int).toNat 64)) 65535) 4129)) (λc (a:Int)=>some (a,0)) 65535
end
end
section
noncomputable section
def k5(w:k8)(n:Int)(bits:Int):Option k8:=
 af (Bj w.e8 (IntKind.wrap .u64 n) bits) λa=>some (k8.mk a.1)
def JO(a b:bX):Int:=Go.Extern.BytealgCompare.cmp ⟨(a.map λc=>UInt8.ofNat c.toNat).toArray⟩ ⟨(b.map λc=>UInt8.ofNat c.toNat).toArray⟩
def Fv(a b:bX):ir:=some (JO a b)
def pY(a:a6):Option ((bX)×Int):=
 af (q1 a) λq=>bif !q then some ([],1)else af (k5 (k8.mk (e4.mk [] 0)) a.ai 7) λo=>af (k5 o a.Seq 20) λp=>jn (λ(B:Int)=>af (k5 p B 1) λt=>af (k5 t (a.Links.length:Int) 5) λj=>bC a.Links 0 (λC h s (b:(bX)×Int)=>match b with|(f,g)=>af (k5 (k8.mk (e4.mk f g)) h.ez 7) λr=>af (k5 r h.kW 10) λu=>af (k5 u h.fo 10) λl=>s (l.e8.Data,l.e8.Bits)) (λ(b:(bX)×Int)=>match b with|(f,g)=>af (k5 (k8.mk (e4.mk f g)) (a.Claims.length:Int) 4) λm=>bC a.Claims 0 (λD i v (b:(bX)×Int)=>match b with|(c,d)=>gu (λy (e:Int)=>eD (decide (0<=e))<|bif decide (IntKind.wrap .i64 (8*2 ^ min e.toNat 64)<i.Length)then y (a2 (e+1))else af (k5 (k8.mk (e4.mk c d)) i.bA 3) λw=>af (k5 w i.aP 9) λx=>af (k5 x e 2) λn=>v (n.e8.Data,n.e8.Bits)) 0) (λ(b:(bX)×Int)=>match b with|(c,d)=>af (By (e4.mk c d)) λA=>af (k5 (k8.mk (e4.mk c d)) (a2 A.1) 16) λz=>some (z.e8.Data,0)) (m.e8.Data,m.e8.Bits)) (j.e8.Data,j.e8.Bits)) λk=>bif a.bK then k 1 else k 0
def Bk(a:a6)(b:a6):dw:=
 af (pY a) λd=>af (pY b) λc=>bif ((!decide (d.2=0))||((!decide (c.2=0))||(!decide (a.ai=b.ai))))then some false else(bif decide (b.Seq<a.Seq)then some true else(bif decide (a.Seq=b.Seq)then af (Fv d.1 c.1) λe=>some (decide (0<e))else some false))
end
end
section
noncomputable section
def A4(c:a6)(b:Int):ir:=
 af (j4 c.ai b) λa=>some a
def xm(d:bM):Option bM:=
 bC d.bq 0 (λg f e (a:(td))=>af (qS f) λb=>af (dm a [b]) λc=>e c) (λ(a:(td))=>some (bM.mk a)) []
def xK(d:bM)(a:a6):Option (Bool×bM):=
 af (z8 d.bq a.ai A4) λb=>jn (λ(g:(td))=>some (true,(bM.mk g))) λc=>bif !b.2 then af (qS a) λe=>af (wk d.bq b.1 e) λj=>c j else af (b6 d.bq b.1) λi=>af (Bk a i) λf=>bif f then af (qS a) λk=>af (gB d.bq b.1 k) λh=>c h else some (false,d)
def Bl(d:bM)(a:a6):Option (bM×Bool):=
 af (xm d) λb=>jn (λ(h:Bool)=>bif h then some (b,false)else af (xK b a) λe=>some (e.2,e.1)) λc=>af (pZ d) λf=>(bif !decide (f=0)then c true else af (q1 a) λg=>c (!g))
def A5(a:bM)(b:bM):Option (bM×Int):=
 jn (λ(j:Bool)=>bif j then some ((bM.mk []),1)else af (xm a) λf=>bC b.bq 0 (λl k h (c:(td))=>af (xK (bM.mk c) k) λi=>h i.2.bq) (λ(c:(td))=>some ((bM.mk c),0)) f.bq) λd=>af (pZ a) λg=>(bif !decide (g=0)then d true else af (pZ b) λe=>d (!decide (e=0)))
end
end
section
noncomputable section
def BR(t:aS)(c:Int)(seq:Int)(m:zo):Option (a6×Int):=
 af (k6 t) λh=>bif !decide (h=0)then some ((a6.mk 0 0 false [] []),1)else af (lM t c) λg=>bif !g then some ((a6.mk 0 0 false [] []),4)else af (hW t c) λe=>af (dm [] m) λf=>bC t.Links 0 (λo a j (b:(BP))=>jn (λ(l:(BP))=>j l) λd=>bif decide (c=a.A)then af (dm b [(ew.mk a.B a.iA a.fo)]) λi=>d i else bif decide (c=a.B)then af (dm b [(ew.mk a.A a.iq a.fo)]) λn=>d n else d b) (λ(b:(BP))=>af (q1 (a6.mk c seq e b f)) λk=>bif !k then some ((a6.mk 0 0 false [] []),2)else some ((a6.mk c seq e b f),0)) []
end
end
section
noncomputable section
def oI(f:aQ):Option aS:=
 af (qJ f.Links) λc=>bC f.aM 0 (λg b e (a:(uX))=>af (dm a [(bV.mk b.ai b.bK)]) λd=>e d) (λ(a:(uX))=>some (aS.mk a c)) []
def ET(n:br)(a:Int):dw:=
 some (decide (n.ai=a))
def q0(f:aQ)(b:Int):Option (Int×Bool):=
 af (DY f.aM (λ(c:br)=>ET c b)) λa=>some (a,decide (0<=a))
def ml(f:aQ):ir:=
 jn (λ(o:Bool)=>bif o then some 1 else bC f.aM 0 (λt b m (a:Unit)=>match a with|()=>jn (λ(p:Bool)=>bif p then some 1 else m ()) λd=>(bif decide (b.Seq<0)then d true else(bif decide (1000000<b.Seq)then d true else af (q1 (a6.mk b.ai 1 false [] b.Claims)) λi=>(bif !i then d true else af (pZ b.Database) λn=>d (!decide (n=0)))))) (λ(a:Unit)=>match a with|()=>bC f.bg 0 (λu c r (a:Unit)=>match a with|()=>af (q0 f c.dx) λk=>af (q0 f c.bS) λl=>jn (λ(s:Bool)=>bif s then some 1 else r ()) λe=>(bif !k.2 then e true else(bif !l.2 then e true else(bif decide (c.dx=c.bS)then e true else af (pZ c.Database) λq=>e (!decide (q=0)))))) (λ(a:Unit)=>match a with|()=>some 0) ()) ()) λg=>af (oI f) λj=>af (k6 j) λh=>(bif !decide (h=0)then g true else g (decide (400<(f.bg.length:Int))))
def q2(f:aQ)(n:br):Option (a6×Bool):=
 bif decide (n.Seq=0)then some ((a6.mk 0 0 false [] []),false)else af (oI f) λb=>af (BR b n.ai n.Seq n.Claims) λa=>some (a.1,decide (a.2=0))
def uB(d:bM):Option bM:=
 bC d.bq 0 (λh a g (b:(td))=>af (wT a.Links) λe=>af (uy a.Claims) λc=>af (dm b [(a6.mk a.ai a.Seq a.bK e c)]) λf=>g f) (λ(b:(td))=>some (bM.mk b)) []
def nN(f:aQ):Option aQ:=
 af (qJ f.Links) λh=>bC f.aM 0 (λn a k (b:(ri))=>af (uy a.Claims) λe=>af (uB a.Database) λg=>af (dm b [(br.mk a.ai a.Seq a.bK e g)]) λj=>k j) (λ(b:(ri))=>bC f.bg 0 (λo d m (c:(sD))=>af (uB d.Database) λl=>af (dm c [(cF.mk d.dx d.bS l)]) λi=>m i) (λ(c:(sD))=>some (aQ.mk h b c)) []) []
def AN(f:aQ):dw:=
 jn (λ(q:Bool)=>bif q then some false else af (oI f) λj=>bC f.aM 0 (λl b p (a:Unit)=>match a with|()=>af (q2 f b) λd=>af (qY b.Database b.ai) λg=>jn (λ(r:Bool)=>bif r then some false else af (hB f.aM 0 l) λo=>bC o 0 (λv i t (a:Unit)=>match a with|()=>jn (λ(u:Bool)=>bif u then some false else t ()) λh=>af (w6 j i.ai b.ai) λn=>(bif n then af (xF i.Database b.Database) λs=>h (!s)else h false)) (λ(a:Unit)=>match a with|()=>p ()) ()) λc=>(bif !d.2 then c true else(bif !g.2 then c true else af (sJ d.1 g.1) λm=>c (!m)))) (λ(a:Unit)=>match a with|()=>some true) ()) λe=>af (ml f) λk=>(bif !decide (k=0)then e true else e (decide (0<(f.bg.length:Int))))
end
end
section
noncomputable section
def qL(m:ea)(i:Int):Option ea:=
 af (b6 m.bp.aM i) λa=>af (q2 m.bp a) λb=>bif b.2 then af (Bl a.Database b.1) λc=>af (gB m.bp.aM i (br.mk a.ai a.Seq a.bK a.Claims c.1)) λd=>some (ea.mk (aQ.mk m.bp.Links d m.bp.bg))else some m
def wZ(m:ea)(i:Int):Option ea:=
 af (b6 m.bp.aM i) λb=>af (oI m.bp) λe=>af (AG e b.ai) λc=>bC c 0 (λj h g (a:(sD))=>af (uB b.Database) λd=>af (dm a [(cF.mk b.ai h d)]) λf=>g f) (λ(a:(sD))=>some (ea.mk (aQ.mk m.bp.Links m.bp.aM a))) m.bp.bg
def oH(m:ea)(k:Int):Option ea:=
 af (b6 m.bp.bg k) λh=>af (qG m.bp.bg k (a2 (k+1))) λb=>af (oI (aQ.mk m.bp.Links m.bp.aM b)) λl=>af (uH l h.dx h.bS) λj=>bif !j.2 then some (ea.mk (aQ.mk m.bp.Links m.bp.aM b))else af (q0 (aQ.mk m.bp.Links m.bp.aM b) h.bS) λc=>af (b6 m.bp.aM c.1) λe=>af (A5 e.Database h.Database) λn=>af (gB m.bp.aM c.1 (br.mk e.ai e.Seq e.bK e.Claims n.1)) λf=>af (b6 f c.1) λa=>af (qY a.Database a.ai) λd=>af (q2 (aQ.mk m.bp.Links f b) a) λi=>jn (λ(o:Bool)=>bif o then af (gB f c.1 (br.mk a.ai (a2 (d.1.Seq+1)) a.bK a.Claims a.Database)) λr=>af (qL (ea.mk (aQ.mk m.bp.Links r b)) c.1) λp=>some p else some (ea.mk (aQ.mk m.bp.Links f b))) λg=>(bif d.2 then(bif !i.2 then g (decide (d.1.Seq<1000000))else af (sJ d.1 i.1) λq=>(bif !q then g (decide (d.1.Seq<1000000))else g false))else g false)
def wX(m:ea):Option ea:=
 gu (λf (e:(mJ)×(ri)×(sD))=>match e with|(c,d,b)=>bif decide (0<(b.length:Int))then af (oH (ea.mk (aQ.mk c d b)) 0) λa=>f (a.bp.Links,a.bp.aM,a.bp.bg)else some (ea.mk (aQ.mk c d b))) (m.bp.Links,m.bp.aM,m.bp.bg)
def Ay(m:ea):Option ea:=
 bC m.bp.aM 0 (λf h g (c:(mJ)×(ri)×(sD))=>match c with|(a,e,d)=>af (wZ (ea.mk (aQ.mk a e d)) f) λb=>g (b.bp.Links,b.bp.aM,b.bp.bg)) (λ(c:(mJ)×(ri)×(sD))=>match c with|(a,e,d)=>some (ea.mk (aQ.mk a e d))) (m.bp.Links,m.bp.aM,m.bp.bg)
def wQ(e:sD)(i:cF->dw):Option (List cF):=
 af (DR e i) λc=>bif decide (c=(-1))then some e else gu (λm (d:(sD)×Int×Int)=>match d with|(b,a,f)=>bif decide (f<(b.length:Int))then jn (λ(d:(sD)×Int)=>match d with|(o,n)=>m (o,n,a2 (f+1))) λg=>af (b6 b f) λh=>af (i h) λj=>bif !j then af (b6 b a) λp=>af (gB b a h) λl=>g (l,a2 (a+1))else g (b,a)else eD (decide (0<=a/\a<(b.length:Int)))<|af (hB (b.take a.toNat++List.replicate (b.length-a.toNat) (cF.mk 0 0 (bM.mk []))) 0 a) λk=>some k) (e,c,a2 (c+1))
end
end
section
noncomputable section
def qN(f:aQ)(d:Int):Option (ea×Int×Int):=
 af (ml f) λc=>bif !decide (c=0)then none else af (q0 f d) λa=>bif !a.2 then none else af (nN f) λb=>some ((ea.mk b),a.1,0)
def uE(f:aQ)(c:Int):Option (Int×Int):=
 af (ml f) λb=>bif !decide (b=0)then some (0,1)else af (q0 f c) λa=>bif !a.2 then some (0,4)else af (nN f) λd=>none
def sw(f:aQ)(k:Int):Option (ea×Int):=
 af (ml f) λb=>bif !decide (b=0)then none else bif ((decide (k<0))||(decide ((f.bg.length:Int)<=k)))then none else af (nN f) λa=>some ((ea.mk a),0)
def w4(f:aQ)(k:Int):ir:=
 af (ml f) λa=>bif !decide (a=0)then some 1 else bif ((decide (k<0))||(decide ((f.bg.length:Int)<=k)))then some 4 else af (nN f) λb=>none
def uG(c:c1)(b:aS):dw:=
 af (lM b c.ai) λa=>some (!a)
def uL(t:aS)(c:p6):Option (aQ×Int):=
 af (k6 t) λo=>bif !decide (o=0)then some ((aQ.mk [] [] []),1)else af (sp c (λ(x:c1)=>uG x t)) λm=>bif m then some ((aQ.mk [] [] []),4)else bC c 0 (λf l u (d:Unit)=>match d with|()=>jn (λ(w:Bool)=>bif w then some ((aQ.mk [] [] []),25)else u ()) λi=>(bif decide (0<f)then af (b6 c (a2 (f-1))) λj=>af (j4 j.ai l.ai) λn=>af (j4 j.Claim.bA l.Claim.bA) λv=>af (q4 [n,v]) λr=>i (decide (0<=r))else i false)) (λ(d:Unit)=>match d with|()=>af (qJ t.Links) λh=>bC t.bf 0 (λB e z (a:(ri))=>bC c 0 (λC k A (b:(zo))=>jn (λ(q:(zo))=>A q) λg=>bif decide (k.ai=e.aP)then af (dm b [k.Claim]) λs=>g s else g b) (λ(b:(zo))=>af (dm a [(br.mk e.aP 0 e.bK b (bM.mk []))]) λp=>z p) []) (λ(a:(ri))=>af (ml (aQ.mk h a [])) λy=>bif !decide (y=0)then some ((aQ.mk [] [] []),1)else some ((aQ.mk h a []),0)) []) ()
def pU(f:aQ)(d:Int):Option (aQ×Int):=
 dV (qN f d) (λa=>bif !decide (a.2.2=0)then some ((aQ.mk [] [] []),a.2.2)else af (b6 a.1.bp.aM a.2.1) λb=>bif decide (b.Seq=1000000)then some ((aQ.mk [] [] []),7)else af (gB a.1.bp.aM a.2.1 (br.mk b.ai (a2 (b.Seq+1)) b.bK b.Claims b.Database)) λg=>af (qL (ea.mk (aQ.mk a.1.bp.Links g a.1.bp.bg)) a.2.1) λe=>some (e.bp,0))<|af (uE f d) λc=>bif !decide (c.2=0)then some ((aQ.mk [] [] []),c.2)else none
def AP(f:aQ)(g:Int):Option (aQ×Int):=
 dV (qN f g) (λa=>bif !decide (a.2.2=0)then some ((aQ.mk [] [] []),a.2.2)else af (b6 a.1.bp.aM a.2.1) λb=>af (gB a.1.bp.aM a.2.1 (br.mk b.ai b.Seq b.bK b.Claims (bM.mk []))) λe=>af (b6 e a.2.1) λc=>af (gB e a.2.1 (br.mk c.ai 1 c.bK c.Claims c.Database)) λi=>af (qL (ea.mk (aQ.mk a.1.bp.Links i a.1.bp.bg)) a.2.1) λh=>some (h.bp,0))<|af (uE f g) λd=>bif !decide (d.2=0)then some ((aQ.mk [] [] []),d.2)else none
def Bg(f:aQ)(d:Int):Option (aQ×Int):=
 dV (qN f d) (λa=>bif !decide (a.2.2=0)then some ((aQ.mk [] [] []),a.2.2)else af (wZ a.1 a.2.1) λb=>bif decide (400<(b.bp.bg.length:Int))then some ((aQ.mk [] [] []),3)else some (b.bp,0))<|af (uE f d) λc=>bif !decide (c.2=0)then some ((aQ.mk [] [] []),c.2)else none
def AQ(f:aQ)(k:Int):Option (aQ×Int):=
 dV (sw f k) (λa=>bif !decide (a.2=0)then some ((aQ.mk [] [] []),a.2)else af (oH a.1 k) λc=>some (c.bp,0))<|af (w4 f k) λb=>bif !decide (b=0)then some ((aQ.mk [] [] []),b)else none
def Bb(f:aQ)(k:Int):Option (aQ×Int):=
 dV (sw f k) (λa=>bif !decide (a.2=0)then some ((aQ.mk [] [] []),a.2)else af (qG a.1.bp.bg k (a2 (k+1))) λc=>some ((aQ.mk a.1.bp.Links a.1.bp.aM c),0))<|af (w4 f k) λb=>bif !decide (b=0)then some ((aQ.mk [] [] []),b)else none
def AH(a:cF)(c:aS):dw:=
 af (uH c a.dx a.bS) λb=>some (!b.2)
def qT(f:aQ)(D:mJ):Option (aQ×Int):=
 af (nN f) λa=>af (qJ D) λi=>jn (λ(v:Bool)=>bif v then some ((aQ.mk [] [] []),1)else af (oI (aQ.mk i a.aM a.bg)) λq=>af (wQ a.bg (λ(A:cF)=>AH A q)) λr=>bC a.aM 0 (λh E t (e:(mJ)×(ri)×(sD))=>match e with|(d,c,g)=>jn (λ(e:(mJ)×(ri)×(sD))=>match e with|(w,p,x)=>t (w,p,x)) λl=>af (b6 c h) λb=>af (b6 f.aM h) λy=>af (q2 f y) λB=>af (q2 (aQ.mk d c g) b) λn=>jn (λ(z:Bool)=>bif z then af (gB c h (br.mk b.ai (a2 (b.Seq+1)) b.bK b.Claims b.Database)) λs=>af (qL (ea.mk (aQ.mk d s g)) h) λk=>l (k.bp.Links,k.bp.aM,k.bp.bg)else l (d,c,g)) λj=>(bif n.2 then af (sJ B.1 n.1) λC=>(bif !C then j (decide (b.Seq<1000000))else j false)else j false)) (λ(e:(mJ)×(ri)×(sD))=>match e with|(d,c,g)=>some ((aQ.mk d c g),0)) (i,a.aM,r)) λm=>af (ml f) λo=>(bif !decide (o=0)then m true else af (ml (aQ.mk i a.aM a.bg)) λu=>m (!decide (u=0)))
def qR(f:aQ):Option (aQ×Int):=
 af (ml f) λc=>bif !decide (c=0)then some ((aQ.mk [] [] []),1)else af (nN f) λa=>af (wX (ea.mk a)) λb=>af (Ay b) λe=>af (wX e) λd=>some (d.bp,0)
def AX(n:Int):ir:=
 some (a2 (2*(if 1099511627776<(if 0>n then 0 else n)then 1099511627776 else(if 0>n then 0 else n))))
end
end
section
noncomputable section
def sA(f:aQ):Option aS:=
 bC f.aM 0 (λe b d (a:(uX))=>af (dm a [(bV.mk b.ai b.bK)]) λc=>d c) (λ(a:(uX))=>some (aS.mk a f.Links)) []
end
end
section
noncomputable section
def A6(t:aS):dw:=
 af (k6 t) λa=>some (decide (a=0))
def Bc(t:aS):Option sE:=
 bC t.bf 0 (λs k m (b:(List (Int×zg))×(List (Int×zg)))=>match b with|(e,g)=>m (bW e k.aP [],bW g k.aP [])) (λ(b:(List (Int×zg))×(List (Int×zg)))=>match b with|(e,g)=>bC t.Links 0 (λv a o (b:(List (Int×zg))×(List (Int×zg)))=>match b with|(c,d)=>af (dm ((aO c a.A).getD []) [(dU.mk a.B a.iA)]) λi=>af (dm ((aO (bW c a.A i) a.B).getD []) [(dU.mk a.A a.iq)]) λl=>af (dm ((aO d a.B).getD []) [(dU.mk a.A a.iA)]) λj=>af (dm ((aO (bW d a.B j) a.A).getD []) [(dU.mk a.B a.iq)]) λp=>o (bW (bW c a.A i) a.B l,bW (bW d a.B j) a.A p)) (λ(b:(List (Int×zg))×(List (Int×zg)))=>match b with|(c,d)=>af (rH c (λ(h:Int) (u:zg) (f:(List (Int×zg)))=>eD (aO f h).isSome<|af (kg (eF [λr:dU=>r.ec]) ((aO f h).getD [])) λq=>some (bW f h q)) c) λ(n:(List (Int×zg)))=>some (sE.mk n d)) (e,g)) ([],[])
def pV(i:List (Int×zg))(m:Int):Option (List (Int×Int)):=
 bif !((aO i m).isSome)then some []else jn (λ(g:(List (Int×Int))×(List (Int×Int)))=>match g with|(n,s)=>some n) λj=>gu (λo (g:(List (Int×Int))×(List (Int×Int)))=>match g with|(e,a)=>bif decide (0<(a.length:Int))then af (rH a (λ(l:Int) (k:Int) (f:Int)=>bif ((decide (f=0))||((decide (k<((aO a f).getD 0)))||((decide (k=((aO a f).getD 0)))&&(decide (l<f)))))then some l else some f) 0) λ(b:Int)=>bif decide (((bW e b ((aO a b).getD 0)).length:Int)=(i.length:Int))then j (bW e b ((aO a b).getD 0),kL a b)else bC ((aO i b).getD []) 0 (λr d q (c:(List (Int×Int)))=>jn (λ(p:(List (Int×Int)))=>q p) λh=>bif (aO (bW e b ((aO a b).getD 0)) d.ec).isSome then h c else bif ((!((aO c d.ec).isSome))||(decide (a2 (((aO a b).getD 0)+d.hU)<((aO c d.ec).getD 0))))then h (bW c d.ec (a2 (((aO a b).getD 0)+d.hU)))else h c) (λ(c:(List (Int×Int)))=>o (bW e b ((aO a b).getD 0),c)) (kL a b)else j (e,a)) ([],bW [] m 0)
def w5(g:sE)(b:List (Int×Int))(d:Int):jK:=
 bif !((aO b d).isSome)then some []else bC ((aO g.jd d).getD []) 0 (λj c h (a:(bX))=>jn (λ(i:(bX))=>h i) λe=>bif (((aO b c.ec).isSome)&&(decide (a2 (c.hU+((aO b c.ec).getD 0))=((aO b d).getD 0))))then af (dm a [c.ec]) λf=>e f else e a) (λ(a:(bX))=>some a) []
def qU(t:aS)(g:Int):Option (List (Int×bX)):=
 af (A6 t) λe=>bif !e then some []else af (Bc t) λa=>af (pV a.nc g) λb=>CL b (λ(c:Int) (h:Int) (d:(List (Int×bX)))=>af (w5 a b c) λf=>some (bW d c f))
end
end
section
noncomputable section
def lN(n:Int)(a:Int)(b:Int):dw:=
 some ((decide (a<=n))&&(decide (n<=b)))
def xe(a:c1):dw:=
 af (lN a.ai 1 99) λd=>(bif !d then some true else af (lN a.Claim.bA 0 7) λb=>(bif !b then some true else af (lN a.Claim.aP 1 256) λc=>(bif !c then some true else af (nH a.Claim.Length) λe=>some (!e))))
def xn(l:p6):ir:=
 bif decide (192<(l.length:Int))then some 3 else af (sp l xe) λh=>bif h then some 2 else bC l 0 (λb e i (a:Unit)=>match a with|()=>jn (λ(k:Bool)=>bif k then some 25 else i ()) λc=>(bif decide (0<b)then af (b6 l (a2 (b-1))) λd=>af (j4 d.ai e.ai) λf=>af (j4 d.Claim.bA e.Claim.bA) λg=>af (q4 [f,g]) λj=>c (decide (0<=j))else c false)) (λ(a:Unit)=>match a with|()=>some 0) ()
def w2(y:cT)(a:cT):dw:=
 some (decide (y.ai=a.ai))
def nI(p:en):dw:=
 jn (λ(n:Bool)=>bif n then some false else bC p.ck 0 (λd c l (e:Unit)=>match e with|()=>af (hB p.ck 0 d) λk=>af (qK k (λ(q:cT)=>w2 q c)) λg=>jn (λ(o:Bool)=>bif o then some false else l ()) λa=>af (lN c.aP 1 256) λm=>(bif !m then a true else af (lN c.ai 1 99) λi=>(bif !i then a true else(bif g then a true else(bif decide (0<d)then af (b6 p.ck (a2 (d-1))) λj=>a (decide (c.aP<=j.aP))else a false))))) (λ(e:Unit)=>match e with|()=>some true) ()) λb=>af (lN p.bA 0 7) λh=>(bif !h then b true else af (nH p.Length) λf=>(bif !f then(bif !decide (p.Length=0)then b true else(bif decide (0<(p.ck.length:Int))then b true else b (decide (24<(p.ck.length:Int)))))else b (decide (24<(p.ck.length:Int)))))
def A7(l:p6)(g:Int):Option (gw 257):=
 bC l 0 (λh b e (a:(gw 257))=>jn (λ(f:(gw 257))=>e f) λc=>bif decide (b.Claim.bA=g)then af (b6 a.l b.Claim.aP) λd=>c (gw.put a b.Claim.aP.toNat (a2 (d+1)))else c a) (λ(a:(gw 257))=>some a) (gw.zero 257)
def AY(l:p6)(g:Int):ir:=
 af (xn l) λd=>bif !decide (d=0)then some 0 else bC l 0 (λh b e (a:Int)=>jn (λ(f:Int)=>e f) λc=>bif ((decide (b.Claim.bA=g))&&((decide (a=0))||(decide (b.Claim.Length<a))))then c b.Claim.Length else c a) (λ(a:Int)=>some a) 0
def uI(l:p6)(b:Int):Option (en×Int):=
 af (xn l) λd=>bif !decide (d=0)then some ((en.mk 0 0 []),d)else af (lN b 0 7) λg=>bif !g then some ((en.mk 0 0 []),2)else af (AY l b) λh=>af (A7 l b) λn=>bC l 0 (λr c m (a:(zw))=>jn (λ(p:(zw))=>m p) λf=>jn (λ(o:Bool)=>bif o then af (dm a [(cT.mk c.ai c.Claim.aP)]) λk=>f k else f a) λe=>(bif decide (c.Claim.bA=b)then af (b6 n.l c.Claim.aP) λj=>e (decide (j=1))else e false)) (λ(a:(zw))=>bif decide (24<(a.length:Int))then some ((en.mk 0 0 []),3)else af (kg (eF [λq:cT=>q.aP]) a) λi=>some ((en.mk b h i),0)) []
end
end
section
noncomputable section
def xL:Nat->Int->(List (Int×bX))->(List (Int×Bool))->(uX)->(mJ)->(bX)->Option ((List (Int×Bool))×(bX))
 |0,_,_,_,_,_,_=>none
 |q+1,o,g,p,h,i,r=>bC ((aO g o).getD []) 0 (λ(s:Int) (b:Int) (m:((bX)×(List (Int×Bool)))->Option _) (c,a)=>jn (λ(d:(List (Int×Bool))×(bX))=>match d with|(k,n)=>m (n,k)) λe=>bif ((aO a b).getD false)then e (a,c)else af (hW (aS.mk h i) b) λ(j:Bool)=>bif j then af (dm c ([b]:bX)) λ(l:bX)=>e (bW a b true,l)else af (xL q b g (bW a b true) h i c) λ(f:(List (Int×Bool))×(bX))=>e (f.1,f.2)) (λ(d:(bX)×(List (Int×Bool)))=>match d with|(c,a)=>some (a,c)) (r,p)
def xW(t:aS)(c:List (Int×bX))(b:Int):jK:=
 af (xL fuel b c [] t.bf t.Links []) λa=>eD (decide (a.2.length<4611686018427387904))<|some (hS a.2)
def BB(t:aS)(p:en)(dn:bX):Option (List cH):=
 bC dn 0 (λw u o (a:(yz))=>af (dm a [(cH.mk u p.bA p.Length [])]) λn=>o n) (λ(a:(yz))=>eD (!a.isEmpty&&a.all λv=>v.Rows.isEmpty)<|bC p.ck 0 (λx d q (g:(yz))=>af (qU t d.ai) λl=>bC dn 0 (λh f s (c:(yz))=>jn (λ(k:(bX))=>af (b6 c h) λb=>af (dm b.Rows [(eR.mk d.aP k)]) λm=>af (gB c h (cH.mk b.ai b.bA b.Length m)) λr=>s r) λe=>bif decide (f=d.ai)then e [f]else af (hW t d.ai) λi=>bif i then af (xW t l f) λj=>e j else e []) (λ(c:(yz))=>q c) g) (λ(g:(yz))=>some g) a) []
def p3(t:aS)(p:en)(a:Int):Option (cH×Int):=
 jn (λ(i:Bool)=>bif i then some ((cH.mk 0 0 0 []),1)else af (lM t a) λd=>bif !d then some ((cH.mk 0 0 0 []),4)else af (hW t a) λh=>bif !h then some ((cH.mk 0 0 0 []),26)else af (BB t p [a]) λf=>af (b6 f 0) λg=>some (g,0)) λb=>af (k6 t) λe=>(bif !decide (e=0)then b true else af (nI p) λc=>b (!c))
end
end
section
noncomputable section
def x4(k:Int):ir:=
 bif ((decide (k<0))||(decide (63<k)))then some 0 else eD (decide (0<=IntKind.wrap .u64 k))<|some (IntKind.wrap .u64 (1*2 ^ min (IntKind.wrap .u64 k).toNat 64))
def BK(b:Int):ir:=
 af (Ez b) λe=>bif !e then some 0 else eD (decide (b<=9223372036854775807))<|iD (b-0).toNat 0 (λc f (a:Int)=>af (x4 c) λd=>f (bT .or .u64 a d)) (λc (a:Int)=>some a) 0
def Bm(t:cu)(f:Int):Option (Int×cu):=
 af (uM t) λe=>af (uM e.2) λd=>jn (λ(h:Int×(bX)×Int)=>match h with|(l,g,k)=>af (BK f) λj=>some (bT .and .u64 l j,(cu.mk g k))) λb=>af (h7 d.2 6) λa=>bif decide (a.1=0)then b (0,a.2.L,a.2.At)else bif decide (a.1=1)then af (h7 a.2 f) λc=>af (x4 c.1) λi=>b (i,c.2.L,c.2.At)else bif decide (a.1=2)then b (18446744073709551615,a.2.L,a.2.At)else b (bT .xor .u64 (IntKind.wrap .u64 ((IntKind.wrap .u64 e.1)*11400714819323198485)) (IntKind.wrap .u64 d.1),a.2.L,a.2.At)
def Bn(t:cu)(j:Int):Option (ByteArray×cu):=
 af (oN t 0 j) λb=>gu (λi (g:(bX)×Int×(bX)×Int)=>match g with|(f,d,c,e)=>bif decide (0<d)then af (h7 (cu.mk c e) 256) λa=>af (dm f [IntKind.wrap .u8 a.1]) λh=>i (h,a2 (d-1),a.2.L,a.2.At)else some ((mE f),(cu.mk c e))) ([],b.1,b.2.L,b.2.At)
def A2(t:cu):Option (c4×cu):=
 af (xg t) λa=>af (oN a.2 1 3) λb=>af (oN b.2 0 7) λc=>af (p2 c.2 [0,0,1,2,31]) λf=>af (p2 f.2 [0,1,2,5,63]) λd=>af (h7 d.2 1024) λe=>af (p2 e.2 [0,1,8,255,256]) λh=>af (h7 h.2 8) λg=>af (Bm g.2 a.1) λi=>af (Bn i.2 6) λj=>some ((c4.mk b.1 c.1 f.1 a.1 d.1 e.1 h.1 g.1 i.1 j.1),j.2)
def xo(id:Int)(a:Int):Option (Int×Int×Bool):=
 jn (λ(e:Bool)=>bif e then some (0,0,false)else eD (decide (a≠0))<|eD (decide (a≠0))<|some (a2 (Int.tdiv (a2 (id-1)) a),Int.tmod (a2 (id-1)) a,true)) λb=>af (nH a) λd=>(bif !d then b true else af (lN id 1 256) λc=>b (!c))
def EX(b:cT)(a:Int):dw:=
 some (decide (b.aP=a))
def Fe(p:en)(id:Int):dw:=
 af (qK p.ck (λ(b:cT)=>EX b id)) λa=>some a
def AZ(id:Int)(b:en):dw:=
 af (Fe b id) λa=>some (!a)
def xG(p:en)(ids:bX):Option ((B8)×Int):=
 af (nI p) λk=>bif !k then some ([],1)else bC ids 0 (λe v o (d:Unit)=>match d with|()=>jn (λ(q:Bool)=>bif q then some ([],25)else o ()) λg=>(bif decide (0<e)then af (b6 ids (a2 (e-1))) λm=>g (decide (v<=m))else g false)) (λ(d:Unit)=>match d with|()=>af (su ids (λ(t:Int)=>AZ t p)) λj=>bif j then some ([],4)else bC ids 0 (λx w u (a:(B8))=>af (xo w p.Length) λb=>jn (λ(c:(B8))=>af (b6 c (a2 ((c.length:Int)-1))) λi=>eD (decide (0<=b.2.1))<|af (gB c (a2 ((c.length:Int)-1)) (g8.mk i.Set (bT .or .u64 i.Bits (IntKind.wrap .u64 (1*2 ^ min b.2.1.toNat 64))))) λl=>u l) λf=>jn (λ(s:Bool)=>bif s then af (dm a [(g8.mk b.1 0)]) λn=>f n else f a) λh=>(bif decide ((a.length:Int)=0)then h true else af (b6 a (a2 ((a.length:Int)-1))) λr=>h (!decide (r.Set=b.1)))) (λ(a:(B8))=>some (a,0)) []) ()
def q7(n:Int)(a:Int):dw:=
 some ((decide (0<=n))&&(decide (n<=a)))
def Fb(a:Int):ir:=
 af (nH a) λb=>bif !b then some 0 else eD (decide (0<=a2 (64-a)))<|some (Int.fdiv 18446744073709551615 (2 ^ min (a2 (64-a)).toNat 64))
def Bo(b:Int)(a:Int):dw:=
 af (nH a) λd=>(bif d then af (Fb a) λc=>some (decide (bT .andNot .u64 b c=0))else some false)
def mZ(p:c4):dw:=
 (bif decide (1<=p.Mode)then(bif decide (p.Mode<=3)then af (q7 p.bA 7) λc=>(bif c then af (q7 p.Set 31) λa=>(bif a then af (Bo p.Bits p.Length) λb=>(bif b then af (q7 p.e3 63) λf=>(bif f then af (q7 p.gh 1023) λd=>(bif d then af (q7 p.gH 256) λe=>(bif e then af (q7 p.gJ 7) λg=>(bif g then some (decide ((p.gN.size:Int)<=64))else some false)else some false)else some false)else some false)else some false)else some false)else some false)else some false)else some false)
def A0(p:en)(ids:bX)(q:c4):Option ((Ew)×Int):=
 af (xG p ids) λb=>bif !decide (b.2=0)then some ([],b.2)else bC b.1 0 (λl a i (c:(Ew)×Int×Int×Int×Int)=>match c with|(d,f,j,g,k)=>af (mZ (c4.mk q.Mode p.bA a.Set p.Length q.e3 q.gh q.gH q.gJ a.Bits q.gN)) λe=>bif !e then some ([],1)else af (dm d [(c4.mk q.Mode p.bA a.Set p.Length q.e3 q.gh q.gH q.gJ a.Bits q.gN)]) λh=>i (h,p.bA,a.Set,p.Length,a.Bits)) (λ(c:(Ew)×Int×Int×Int×Int)=>match c with|(d,f,j,g,k)=>some (d,0)) ([],q.bA,q.Set,q.Length,q.Bits)
def uU(n:Int)(a:Int)(b:Int):dw:=
 some ((decide (a<=n))&&(decide (n<=b)))
def EU(n:Int):dw:=
 af (uU n 1 99) λa=>some (!a)
def xH(a:eR):dw:=
 af (uU a.aP 1 256) λc=>(bif !c then some true else af (su a.Next EU) λb=>some b)
def xy(l:bX):dw:=
 bC l 0 (λb g e (a:Unit)=>match a with|()=>jn (λ(f:Bool)=>bif f then some false else e ()) λc=>(bif decide (0<b)then af (b6 l (a2 (b-1))) λd=>c (decide (g<=d))else c false)) (λ(a:Unit)=>match a with|()=>some true) ()
def Bd(a:eR):dw:=
 some (decide (24<(a.Next.length:Int)))
def xI(a:eR)(c:cH):dw:=
 (bif decide (1<(a.Next.length:Int))then af (oG a.Next c.ai) λb=>some b else some false)
def uO(b:cH):ir:=
 jn (λ(p:Bool)=>bif p then some 2 else jn (λ(r:Bool)=>bif r then some 3 else bC b.Rows 0 (λe g n (c:Unit)=>match c with|()=>jn (λ(u:Bool)=>bif u then some 25 else n ()) λd=>af (xy g.Next) λt=>(bif !t then d true else(bif decide (0<e)then af (b6 b.Rows (a2 (e-1))) λm=>d (decide (g.aP<=m.aP))else d false))) (λ(c:Unit)=>match c with|()=>af (nF b.Rows (λ(s:eR)=>xI s b)) λq=>bif q then some 8 else some 0) ()) λf=>(bif decide (256<(b.Rows.length:Int))then f true else af (nF b.Rows Bd) λl=>f l)) λa=>af (uU b.ai 1 99) λj=>(bif !j then a true else af (uU b.bA 0 7) λh=>(bif !h then a true else af (nH b.Length) λi=>(bif !i then(bif !((decide (b.Length=0))&&(decide ((b.Rows.length:Int)=0)))then a true else af (nF b.Rows xH) λo=>a o)else af (nF b.Rows xH) λk=>a k)))
def EI(b:cH):dw:=
 af (uO b) λa=>some (!decide (a=0))
def AR(b:cH)(c:yz):dw:=
 af (b6 c 0) λa=>(bif !decide (b.bA=a.bA)then some true else some (!decide (b.Length=a.Length)))
def xp(l:yz):ir:=
 bif decide (24<(l.length:Int))then some 3 else af (uw l EI) λe=>bif e then some 1 else bC l 0 (λb j g (a:Unit)=>match a with|()=>jn (λ(h:Bool)=>bif h then some 25 else g ()) λc=>(bif decide (0<b)then af (b6 l (a2 (b-1))) λf=>c (decide (j.ai<=f.ai))else c false)) (λ(a:Unit)=>match a with|()=>af (uw l (λ(i:cH)=>AR i l)) λd=>bif d then some 8 else some 0) ()
def xX(l:yz)(h:Int):Option (cH×Bool):=
 bC l 0 (λj a g (c:Unit)=>match c with|()=>bif decide (a.ai=h)then bC a.Rows 0 (λk d i (b:(List eR))=>af (wY d.Next) λe=>af (dm b [(eR.mk d.aP e)]) λf=>i f) (λ(b:(List eR))=>some ((cH.mk a.ai a.bA a.Length b),true)) []else g ()) (λ(c:Unit)=>match c with|()=>some ((cH.mk 0 0 0 []),false)) ()
def Bp(t:aS)(l:yz)(p:c4)(c:Int):ir:=
 af (xX l c) λa=>jn (λ(e:Bool)=>bif e then some 4 else bif decide (p.Mode=2)then some 7 else bif ((!decide (p.bA=a.1.bA))||(!decide (p.Length=a.1.Length)))then some 8 else some 0) λb=>(bif !a.2 then b true else af (lM t c) λd=>b (!d))
def Aq(a:Int):ir:=
 bif decide (a=0)then some 64 else af (b6 r9 (Int.fdiv (IntKind.wrap .u64 ((bT .and .u64 a (IntKind.wrap .u64 (0-a)))*285870213051353865)) (2 ^ min (58:Int).toNat 64))) λb=>some (a2 b)
def xM(b:Int):ir:=
 bif decide (b=0)then some (-1)else af (Aq b) λa=>some a
def xR(b:Int):jK:=
 gu (λg (e:Int×(bX))=>match e with|(a,c)=>bif !decide (a=0)then af (xM a) λd=>af (dm c [d]) λf=>g (bT .and .u64 a (IntKind.wrap .u64 (a-1)),f)else some c) (b,[])
def BF(p:c4)(a:Int):Option c4:=
 jn (λ(d:Bool)=>bif d then none else eD (decide (0<=a))<|some (c4.mk p.Mode p.bA p.Set p.Length p.e3 p.gh p.gH p.gJ (IntKind.wrap .u64 (1*2 ^ min a.toNat 64)) p.gN)) λb=>af (mZ p) λc=>(bif !c then b true else(bif decide (a<0)then b true else(bif decide (63<a)then b true else eD (decide (0<=a))<|b (decide (bT .and .u64 (Int.fdiv p.Bits (2 ^ min a.toNat 64)) 1=0)))))
def Be(j:cH)(f:Int)(g:jk)(p:c4):Option (List m1):=
 af (xR g.Local) λc=>bC c 0 (λi h e (a:(List m1))=>af (BF p h) λb=>af (dm a [(m1.mk f b)]) λd=>e d) (λ(a:(List m1))=>some a) []
def BG(p:c4)(n:Int)(step:Int->i6->Option (jk×Bool)):Option kU:=
 gu (λm (a:(List k7)×(List m1)×(List rj))=>match a with|(d,h,i)=>bif decide (0<(d.length:Int))then af (b6 d 0) λb=>af (hB d 1 (d.length:Int)) λl=>af (step b.mA b.gO) λc=>bif !c.2 then none else af (Be (cH.mk 0 0 0 []) b.mA c.1 b.gO.cg) λj=>af (dm h j) λk=>bif !decide (c.1.r4=0)then none else bC c.1.kT 0 (λs e o (a:(List k7)×(List rj))=>match a with|(g,f)=>af (dm f [(rj.mk b.mA e.bS e.Frame.cg.Bits)]) λq=>af (dm g [(k7.mk e.bS e.Frame)]) λr=>o (r,q)) (λ(a:(List k7)×(List rj))=>match a with|(g,f)=>m (g,k,f)) (l,i)else some (kU.mk h i [])) ([(k7.mk n (i6.mk [] p))],[],[])
def FZ(n:Int)(a:Int)(b:Int):dw:=
 some ((decide (a<=n))&&(decide (n<=b)))
def Fp(n:Int):dw:=
 af (FZ n 1 99) λa=>some a
def EV(l:bX):dw:=
 bC l 0 (λc f e (a:Unit)=>match a with|()=>af (hB l 0 c) λd=>af (oG d f) λb=>bif b then some true else e ()) (λ(a:Unit)=>match a with|()=>some false) ()
def Et(n:Int):dw:=
 af (Fp n) λa=>some (!a)
def AS(f:i6):dw:=
 (bif decide ((f.jS.length:Int)<=24)then af (su f.jS Et) λc=>(bif !c then af (EV f.jS) λa=>(bif !a then af (mZ f.cg) λb=>some b else some false)else some false)else some false)
def Bq(p:c4):ir:=
 af (mZ p) λa=>bif !a then some 0 else some (Int.tmod p.gh 8)
def q5(d:Int)(c:Int)(a:Int):Option (Int×Bool):=
 jn (λ(h:Bool)=>bif h then some (0,false)else bif decide (256<a2 ((a2 ((a2 (d*a))+c))+1))then some (0,false)else some (a2 ((a2 ((a2 (d*a))+c))+1),true)) λb=>af (nH a) λg=>(bif !g then b true else af (lN c 0 (a2 (a-1))) λe=>(bif !e then b true else af (lN d 0 31) λf=>b (!f)))
def xS(b:cH)(a:Int)(c:Int):dw:=
 af (uO b) λd=>(bif decide (d=0)then(bif decide (0<=a)then(bif decide (a<8)then(bif decide (0<=c)then some (decide (c<=31))else some false)else some false)else some false)else some false)
def BS(b:cH)(id:Int):Option (eR×Bool):=
 bC b.Rows 0 (λf c e (a:Unit)=>match a with|()=>bif decide (c.aP=id)then af (wY c.Next) λd=>some ((eR.mk id d),true)else e ()) (λ(a:Unit)=>match a with|()=>some ((eR.mk 0 []),false)) ()
def sK(a:eR)(c:Int):ir:=
 bif decide ((a.Next.length:Int)=0)then some 0 else eD (decide ((a.Next.length:Int)≠0))<|af (b6 a.Next (Int.tmod c (a.Next.length:Int))) λb=>some b
def BL(b:cH)(id:Int)(a:Int):ir:=
 af (xS b a 0) λe=>bif !e then some 0 else af (BS b id) λc=>af (sK c.1 a) λd=>some d
def sF(b:cH)(i:Int)(j:Int):Option (List (Int×Int)):=
 bC b.Rows 0 (λk f g (a:(List (Int×Int)))=>jn (λ(h:(List (Int×Int)))=>g h) λe=>af (xo f.aP b.Length) λd=>af (sK f i) λc=>bif ((decide (d.1=j))&&(!decide (c=0)))then eD (decide (0<=d.2.1))<|e (bW a c (bT .or .u64 ((aO a c).getD 0) (IntKind.wrap .u64 (1*2 ^ min d.2.1.toNat 64))))else e a) (λ(a:(List (Int×Int)))=>some a) []
def BM(b:cH)(a:Int)(c:Int)(f:Int):ir:=
 af (xS b a c) λe=>bif !e then some 0 else af (sF b a c) λd=>some ((aO d f).getD 0)
def xJ(p:c4)(m:Int):Option (c4×Bool):=
 jn (λ(c:Bool)=>bif c then none else some ((c4.mk p.Mode p.bA p.Set p.Length (a2 (p.e3-1)) p.gh p.gH p.gJ (bT .and .u64 p.Bits m) p.gN),true)) λa=>af (mZ p) λb=>(bif !b then a true else(bif decide (p.e3=0)then a true else a (decide (bT .and .u64 p.Bits m=0))))
def A9(b:cH)(p:c4):Option (jk×Int):=
 jn (λ(r:Bool)=>bif r then none else bif decide (p.Mode=2)then none else bif ((!decide (b.bA=p.bA))||(!decide (b.Length=p.Length)))then none else af (Bq p) λg=>gu (λi (n:Int×Int×(List iU))=>match n with|(a,e,f)=>bif !decide (a=0)then af (xM a) λd=>eD (decide (0<=d))<|af (q5 p.Set d p.Length) λo=>af (BL b o.1 g) λc=>bif decide (c=0)then none else bif decide (c=b.ai)then i (bT .andNot .u64 a (IntKind.wrap .u64 (1*2 ^ min d.toNat 64)),bT .or .u64 e (IntKind.wrap .u64 (1*2 ^ min d.toNat 64)),f)else af (BM b g p.Set c) λk=>af (xJ (c4.mk p.Mode p.bA p.Set p.Length p.e3 p.gh p.gH p.gJ a p.gN) (bT .and .u64 a k)) λj=>bif j.2 then af (dm f [(iU.mk c (i6.mk [] j.1))]) λq=>i (bT .andNot .u64 a (bT .and .u64 a k),e,q)else none else some ((jk.mk e 0 f),0)) (p.Bits,0,[])) λh=>af (uO b) λm=>(bif !decide (m=0)then h true else af (mZ p) λl=>h (!l))
def xq:Nat->Int->(List (Int×bX))->Int->(uX)->(mJ)->jK
 |0,_,_,_,_,_=>none
 |i+1,j,c,a,d,e=>bC ((aO c j).getD []) 0 (λ(l:Int) (b:Int) (h:Unit->Option _) ()=>bif decide (b=a)then some ([a]:bX)else af (hW (aS.mk d e) b) λ(f:Bool)=>bif f then h ()else af (xq i b c a d e) λ(k:(bX))=>none) (λ(g:Unit)=>match g with|()=>some []) ()
def Br(t:aS)(c:Int)(a:Int):jK:=
 jn (λ(g:Bool)=>bif g then some []else af (qU t a) λd=>af (xq fuel c d a t.bf t.Links) λe=>some e) λb=>af (k6 t) λf=>(bif !decide (f=0)then b true else b (decide (c=a)))
def BH(t:aS)(e:Int)(c:iU):Option (iU×Bool):=
 af (Br t e c.bS) λa=>bif decide ((a.length:Int)=0)then none else af (b6 a 0) λb=>af (hB a 1 (a.length:Int)) λd=>some ((iU.mk b (i6.mk d c.Frame.cg)),true)
def Bz(t:aS)(l:yz)(e:Int)(f:i6):Option (jk×Int):=
 jn (λ(p:Bool)=>bif p then none else af (xX l e) λg=>jn (λ(q:Bool)=>bif q then none else bif decide (0<(f.jS.length:Int))then none else af (A9 g.1 f.cg) λa=>bif !decide (a.2=0)then none else bC a.1.kT 0 (λs r o (b:(List iU))=>af (BH t e r) λh=>bif h.2 then af (dm b [h.1]) λn=>o n else none) (λ(b:(List iU))=>some ((jk.mk a.1.Local a.1.r4 b),0)) []) λc=>af (lM t e) λm=>(bif !m then c true else(bif decide ((f.jS.length:Int)=0)then c (!g.2)else c false))) λd=>af (k6 t) λk=>(bif !decide (k=0)then d true else af (xp l) λi=>(bif !decide (i=0)then d true else af (AS f) λj=>d (!j)))
def xN(b:Int)(f:i6)(c:aS)(d:yz):Option (jk×Bool):=
 af (Bz c d b f) λa=>some (a.1,decide (a.2=0))
def BN(t:aS)(l:yz)(p:c4)(b:Int):Option (kU×Int):=
 jn (λ(h:Bool)=>bif h then none else af (Bp t l p b) λg=>bif !decide (g=0)then none else af (BG p b (λ(i:Int) (j:i6)=>xN i j t l)) λf=>some (f,0)) λa=>af (k6 t) λe=>(bif !decide (e=0)then a true else af (xp l) λc=>(bif !decide (c=0)then a true else af (mZ p) λd=>a (!d)))
def BT(b:Int)(k:Int):dw:=
 (bif decide (0<=k)then(bif decide (k<64)then eD (decide (0<=IntKind.wrap .u64 k))<|some (decide (bT .and .u64 (Int.fdiv b (2 ^ min (IntKind.wrap .u64 k).toNat 64)) 1=1))else some false)else some false)
def BO(b:Int):jK:=
 iD ((64:Int)-(0:Int)).toNat (0:Int) (λ(c:Int) (g:(bX)->Option _) (a:(bX))=>jn (λ(h:(bX))=>g h) λd=>af (BT b (c:Int)) λe=>bif e then af (dm a ([(c:Int)]:bX)) λf=>d f else d a) (λ(c:Int) (a:(bX))=>some a) []
def BA(b:Int):ir:=
 af (BO b) λa=>some (a.length:Int)
def yC(f:kU)(bits:Int):dw:=
 bC f.iI 0 (λk c h (b:Int)=>jn (λ(i:Bool)=>bif i then some false else h (bT .or .u64 b c.cg.Bits)) λe=>af (BA c.cg.Bits) λg=>(bif !decide (g=1)then e true else e (!decide (bT .and .u64 b c.cg.Bits=0)))) (λ(b:Int)=>bC f.qf 0 (λl d j (a:Int)=>bif ((decide (d.Bits=0))||(!decide (bT .and .u64 a d.Bits=0)))then some false else j (bT .or .u64 a d.Bits)) (λ(a:Int)=>some (decide (a=bits))) b) 0
def AI(q:c4):dw:=
 af (mZ q) λa=>some (!a)
def A1(p:en)(l:Ew)(t:List kU):Option ((bX)×Int):=
 jn (λ(s:Bool)=>bif s then none else bC l 0 (λm g r (a:(bX))=>af (b6 t m) λo=>bC o.iI 0 (λy h w (d:(bX))=>af (xR h.cg.Bits) λj=>bC j 0 (λz v x (e:(bX))=>af (q5 g.Set v g.Length) λc=>jn (λ(u:Bool)=>bif u then none else af (dm e [c.1]) λq=>x q) λf=>(bif !c.2 then f true else af (Ag p.ck (cT.mk h.ai c.1)) λn=>f (!n))) (λ(e:(bX))=>w e) d) (λ(d:(bX))=>r d) a) (λ(a:(bX))=>eD (decide (a.length<4611686018427387904))<|some (hS a,0)) []) λb=>af (nI p) λk=>(bif !k then b true else(bif !decide ((l.length:Int)=(t.length:Int))then b true else af (Aa l AI) λi=>b i))
end
end
end
section
open Go Go.Proofs.Tryz
variable {au:Bool}
def sH{l n r}(a:q6 l n=some r):bb au prog 79 [] [an aJ l,H n] (.bool r):=by
 refine a5 func79 rfl rfl ?_;unfold q6 at a;refine aj [] [(0,an aJ l),(1,H n)] []<|aq<|ak [] [] [(5,H 0)]<|aX<|aFd 0 rfl λe=>?_
 obtain⟨m,o,h,i,a⟩:=cG a;refine cO a (λb()=>[(0,an aJ l),(1,H n),(5,H b)]) (λb()=>[]) ?_ ?_ ?_
 .exact c8
 .rintro b j k ⟨⟩ g d a;rw[h]at a;refine aq<|ak [(2,Y (bk aJ l))] [] [(9,.d ((b:Int)<l.length))] ?_
  refine aI (cL d)<|aK<|aq<|aX<|ak [(2,be (ix aJ (bU d)))] [9] [(17,.d (j=n))] ?_
  rcases aC a with⟨c,a⟩|⟨c,a⟩
  .exact aI c<|aj [] [(4,.bool true)] []<|aN
  exact aH c<|aK<|a7 [(1,Y (cI d e))] [5,17] [(5,H ((b+1:Nat):Int))]<|aT () a
 rintro b ⟨⟩ g f a;rw[i]at a;refine aq<|ak [(2,Y (bk aJ l))] [] [(9,.d ((b:Int)<l.length))] ?_
 exact aH (cK f)<|bQ<|aj [] [(4,.bool false)] []<|aN
def Vl{l n r}(a:Bs l n=some r):bb au prog 168 [] [an aJ l,H n] (an aJ r):=by
 refine a5 func168 rfl rfl ?_;unfold Bs at a;refine aj [] [(0,an aJ l),(1,H n)] []<|ak [] [] [(5,H 0)]<|aq<|aX ?_
 obtain⟨G,F,z,a⟩:=jL a;refine aFn a (λb=>[(0,an aJ l),(1,H n),(5,H b)]) (λb=>[]) ?_ ?_
 .exact c8
 rintro D b a;rw[z]at a;refine aq ?_;obtain⟨t,s,a⟩:=cV a;refine cW t r (λf=>[(0,an aJ l),(1,H n),(5,H b),(18,.bool f)]) (λf=>[]) ?_ ?_
 .rcases aC a with⟨d,a⟩|⟨d,a⟩
  .obtain⟨i,B,a⟩:=az a;exact a7 [(2,Y (bk aJ l)),(4,Y (ax d)),(7,be (ix aJ B))] [] [(18,.d (i<n))]<|aT (decide (i<n)) a
  exact a7 [(2,Y (bk aJ l)),(4,Y (ax d))] [] [(18,.bool false)]<|aT false a
 rintro f a;rw[s]at a;rcases aC a with⟨c,a⟩|⟨c,a⟩
 .exact aI c<|aK<|aX<|a7 [] [5,18] [(5,H (a2 (b+1)))]<|aT (a2 (b+1)) a
 refine aH c<|bQ<|aq ?_
 obtain⟨o,w,a⟩:=cV a;refine cW o r (λh=>[(0,an aJ l),(1,H n),(5,H b),(32,.bool h)]) (λh=>[]) ?_ ?_
 .rcases aC a with⟨e,a⟩|⟨e,a⟩
  .obtain⟨j,k,a⟩:=az a;exact a7 [(2,Y (bk aJ l)),(4,Y (ax e)),(7,be (ix aJ k))] [18] [(32,.d (j=n))]<|aT (decide (j=n)) a
  exact a7 [(2,Y (bk aJ l)),(4,Y (ax e))] [18] [(32,.bool false)]<|aT false a
 rintro h a;rw[w]at a;rcases aC a with⟨g,a⟩|⟨g,a⟩
 .exact aI g<|aj [] [(4,an aJ l)] []<|aN
 refine aH g<|aK<|ak [] [32] [(6,.aF)] ?_
 obtain⟨C,m,q,u,a⟩:=er a;refine aV [(3,fB (sl aJ m)),(4,dS 517 (ap aJ (bytes:=8) (by decide) u))] [6] [(6,.own 517)] [] [(517,.s 3 aJ q)] ?_;obtain⟨y,v,a⟩:=az a;refine aV [(3,dS 518 (ap aJ (bytes:=8) (by decide) v))] [1,6] [(6,.own 518)] [517] [(518,.s 3 aJ y)] ?_;obtain⟨E,p,A,x,a⟩:=er a;refine aj [(3,fB (zL aJ p)),(4,dS 462 (ap aJ (bytes:=8) (by decide) x))] [(4,.own 462)] [(462,.s 3 aJ A)]<|c2 ?_
 obtain rfl:=cy a;exact c0 [.bL [462]]
def Ft{a b r}(c:xV a b=some r):bb au prog 14 [] [an aJ a,an aJ b] (.bool r):=by
 refine a5 func14 rfl rfl ?_;unfold xV at c;refine aj [] [(0,an aJ a),(1,an aJ b)] []<|aq<|ak [(1,Y (bk aJ a)),(3,Y (bk aJ b))] [] [(10,.bool (!decide ((a.length:Int)=(b.length:Int))))] ?_
 rcases aC c with⟨f,c⟩|⟨f,c⟩
 .exact aI f<|aj [] [(4,.bool false)] []<|aN
 refine aH f<|aK<|aq<|ak [] [10] [(5,H 0)]<|aX<|aFd 0 rfl λh=>?_
 obtain⟨q,s,k,l,c⟩:=cG c;refine cO c (λd()=>[(0,an aJ a),(1,an aJ b),(5,H d)]) (λd()=>[]) ?_ ?_ ?_
 .exact c8
 .rintro d n p ⟨⟩ j g c;rw[k]at c;refine aq<|ak [(2,Y (bk aJ a))] [] [(14,.d ((d:Int)<a.length))] ?_
  refine aI (cL g)<|aK<|aq<|aX ?_
  obtain⟨m,o,c⟩:=az c;refine ak [(2,be (ix aJ (bU g))),(6,be (ix aJ o))] [14] [(25,.bool (!decide (n=m)))] ?_;rcases aC c with⟨e,c⟩|⟨e,c⟩
  .exact aI e<|aj [] [(4,.bool false)] []<|aN
  exact aH e<|aK<|a7 [(1,Y (cI g h))] [5,25] [(5,H ((d+1:Nat):Int))]<|aT () c
 rintro d ⟨⟩ j i c;rw[l]at c;refine aq<|ak [(2,Y (bk aJ a))] [] [(14,.d ((d:Int)<a.length))] ?_
 exact aH (cK i)<|bQ<|aj [] [(4,.bool true)] []<|aN
variable {au:Bool}
def uJ{n r}(c:BI n=some r):bb au prog 159 [] [H n] (.bool r):=by
 refine a5 func159 rfl rfl ?_;unfold BI at c;refine aj [] [(0,H n)] []<|aFe [(2,.bool ((decide (1<=n))&&(decide (n<=1000))))] [] (λb=>?_) ?_
 .rcases eU (decide (1<=n))with a|a
  .exact aj [(2,Y (ax a)),(6,Y (ko (q:=decide (n<=1000)) a))] _ _ b
  exact aj [(2,Y (ax a)),(6,Y (kK (q:=decide (n<=1000)) a))] _ _ b
 exact aN
variable {t:aS}
def E7{c r}(a:uR t c=some r):bb au prog 160 [] [.agg (bz t),H c] (.bool r):=by
 refine a5 func160 rfl rfl ?_;unfold uR at a;refine aj [(0,.al 219)] [(1,H c),(2,.ptr 219 0)] [(219,.cells 41 (bz t))]<|aq<|ak [] [] [(5,H 0)]<|aX<|aFm 2 0 rfl rfl rfl λf=>?_
 obtain⟨m,n,i,j,a⟩:=cG a;refine cO a (λb()=>[(1,H c),(2,.ptr 219 0),(5,H b)]) (λb()=>[(219,.cells 41 (bz t))]) ?_ ?_ ?_
 .exact c8
 .rintro b k l ⟨⟩ h e a;rw[i]at a;refine aq<|ak [(3,Y (bk bJ t.bf))] [] [(10,.d ((b:Int)<t.bf.length))] ?_
  refine aI (cL e)<|aK<|aq<|aX<|ak [(3,be (ix bJ (bU e)))] [10] [(20,.d (k.aP=c))] ?_
  rcases aC a with⟨d,a⟩|⟨d,a⟩
  .exact aI d<|aj [] [(4,.bool true)] []<|aN
  exact aH d<|aK<|a7 [(1,Y (cI e f))] [5,20] [(5,H ((b+1:Nat):Int))]<|aT () a
 rintro b ⟨⟩ h g a;rw[j]at a;refine aq<|ak [(3,Y (bk bJ t.bf))] [] [(10,.d ((b:Int)<t.bf.length))] ?_
 exact aH (cK g)<|bQ<|aj [] [(4,.bool false)] []<|aN
def Vt{d c r}(b:Bu t d c=some r):bb au prog 223 [] [.agg (bz t),H d,H c] (.bO [H r.1,.bool r.2]):=by
 refine a5 func223 rfl rfl ?_;unfold Bu at b;refine aj [(0,.al 180)] [(1,H d),(2,H c),(3,.ptr 180 0)] [(180,.cells 41 (bz t))]<|aq<|ak [] [] [(8,H 0)]<|aX<|aFm 3 1 rfl rfl rfl λl=>?_
 obtain⟨u,v,o,p,b⟩:=cG b;refine cO b (λe()=>[(1,H d),(2,H c),(3,.ptr 180 0),(8,H e)]) (λe()=>[(180,.cells 41 (bz t))]) ?_ ?_ ?_
 .exact c8
 .rintro e a s ⟨⟩ n j b;rw[o]at b;refine aq<|ak [(3,Y (bk aW t.Links))] [] [(14,.d ((e:Int)<t.Links.length))] ?_
  refine aI (cL j)<|aK<|aq<|aX<|aV [(3,be (ix aW (bU j))),(5,.al 320)] [14] [(9,.ptr 320 0)] [] [(320,.cells 139 (dJ a))]<|aq<|aFe [(1,H d),(2,H c),(3,.ptr 180 0),(8,H e),(9,.ptr 320 0),(31,.bool ((decide (a.A=d))&&(decide (a.B=c))))] [(180,.cells 41 (bz t)),(320,.cells 139 (dJ a))] (λh=>?_) ?_
  .rcases eU (decide (a.A=d))with f|f
   .exact aj [(4,Y (ax f)),(9,Y (ko (q:=decide (a.B=c)) f))] _ _ h
   exact aj [(4,Y (ax f)),(9,Y (kK (q:=decide (a.B=c)) f))] _ _ h
  rcases aC b with⟨i,b⟩|⟨i,b⟩
  .exact aI i<|aj [] [(6,H a.iA),(7,.bool true)] []<|aN
  refine aH i<|aK<|aFe [(1,H d),(2,H c),(3,.ptr 180 0),(8,H e),(9,.ptr 320 0),(43,.bool ((decide (a.B=d))&&(decide (a.A=c))))] [(180,.cells 41 (bz t)),(320,.cells 139 (dJ a))] (λh=>?_) ?_
  .rcases eU (decide (a.B=d))with g|g
   .exact aj [(4,Y (ax g)),(9,Y (ko (q:=decide (a.A=c)) g))] _ _ h
   exact aj [(4,Y (ax g)),(9,Y (kK (q:=decide (a.A=c)) g))] _ _ h
  rcases aC b with⟨k,b⟩|⟨k,b⟩
  .exact aI k<|aj [] [(6,H a.iq),(7,.bool true)] []<|aN
  exact aH k<|aK<|b0 [(1,Y (cI j l))] [8,9,43] [(8,H ((e+1:Nat):Int))] [320] []<|aT () b
 rintro e ⟨⟩ n m b;rw[p]at b;refine aq<|ak [(3,Y (bk aW t.Links))] [] [(14,.d ((e:Int)<t.Links.length))] ?_
 exact aH (cK m)<|bQ<|aj [] [(6,H 0),(7,.bool false)] []<|aN
def Je{r}(a:xP t=some r):bb au prog 78 [] [.agg (bz t)] (H r):=by
 refine a5 func78 rfl rfl ?_;unfold xP at a;refine aj [(0,.al 14)] [(1,.ptr 14 0)] [(14,.cells 41 (bz t))]<|aq<|aFe [(1,.ptr 14 0),(21,.bool ((decide (24<(t.bf.length:Int)))||(decide (60<(t.Links.length:Int)))))] [(14,.cells 41 (bz t))] (λd=>?_) ?_
 .rcases eU (decide (24<(t.bf.length:Int)))with m|m
  .exact aj [(2,Y (bk bJ t.bf)),(4,Y (ax m)),(9,Y (hj (q:=decide (60<(t.Links.length:Int))) m))] _ _ d
  exact aj [(2,Y (bk bJ t.bf)),(4,Y (ax m)),(7,Y (bk aW t.Links)),(9,Y (eW (q:=decide (60<(t.Links.length:Int))) m))] _ _ d
 rcases aC a with⟨z,a⟩|⟨z,a⟩
 .exact aI z<|aj [] [(2,H 3)] []<|aN
 refine aH z<|aK<|aq<|ak [] [21] [(3,H 0)]<|aX<|aFm 1 0 rfl rfl rfl λX=>?_
 obtain⟨b9,ca,ab,ae,a⟩:=cG a;refine cO a (λe()=>[(1,.ptr 14 0),(3,H e)]) (λe()=>[(14,.cells 41 (bz t))]) ?_ ?_ ?_
 .exact c8
 .rintro e v b6 ⟨⟩ aa n a;rw[ab]at a;refine aq<|ak [(3,Y (bk bJ t.bf))] [] [(26,.d ((e:Int)<t.bf.length))] ?_
  refine aI (cL n)<|aK<|aq<|aX<|aFe [(1,.ptr 14 0),(3,H e),(44,.bool ((decide (v.aP<1))||(decide (99<v.aP))))] [(14,.cells 41 (bz t))] (λd=>?_) ?_
  .rcases eU (decide (v.aP<1))with o|o
   .exact aj [(3,be (ix bJ (bU n))),(7,Y (ax o)),(15,Y (hj (q:=decide (99<v.aP)) o))] _ _ d
   exact aj [(3,be (ix bJ (bU n))),(7,Y (ax o)),(11,be (ix bJ (bU n))),(15,Y (eW (q:=decide (99<v.aP)) o))] _ _ d
  rcases aC a with⟨E,a⟩|⟨E,a⟩
  .exact aI E<|aj [] [(2,H 2)] []<|aN
  exact aH E<|aK<|a7 [(1,Y (cI n X))] [3,44] [(3,H ((e+1:Nat):Int))]<|aT () a
 rintro e ⟨⟩ aa Z a;rw[ae]at a;refine aq<|ak [(3,Y (bk bJ t.bf))] [] [(26,.d ((e:Int)<t.bf.length))] ?_
 refine aH (cK Z)<|bQ<|aq<|ak [] [3,26] [(4,H 1)]<|aX<|aFm 1 0 rfl rfl rfl λay=>?_
 obtain⟨aJ,aG,aA,aD,a⟩:=cG a;refine aF0 (l:=t.bf) (oM:=1) (B:=aJ) (K:=aG) a (λi()=>[(1,.ptr 14 0),(4,H i)]) (λi()=>[(14,.cells 41 (bz t))]) ?_ ?_ ?_
 .exact c8
 .rintro i bG cb ⟨⟩ aE J a;rw[aA]at a;refine aq<|ak [(3,Y (bk bJ t.bf))] [] [(49,.d ((i:Int)<t.bf.length))] ?_
  refine aI (cL J)<|aK<|aq<|aX ?_
  obtain⟨an,bH,a⟩:=az a;refine ak [(4,be (ix bJ bH)),(10,be (ix bJ (bU J)))] [49] [(65,.d (bG.aP<=an.aP))] ?_;rcases aC a with⟨C,a⟩|⟨C,a⟩
  .exact aI C<|aj [] [(2,H 25)] []<|aN
  exact aH C<|aK<|a7 [(1,Y (cI J ay))] [4,65] [(4,H ((i+1:Nat):Int))]<|aT () a
 rintro i ⟨⟩ aE aw a;rw[aD]at a;refine aq<|ak [(3,Y (bk bJ t.bf))] [] [(49,.d ((i:Int)<t.bf.length))] ?_
 refine aH (cK aw)<|bQ<|aq<|ak [] [4,49] [(5,H 0)]<|aX<|aFm 1 1 rfl rfl rfl λaL=>?_
 obtain⟨cf,ch,aU,aY,a⟩:=cG a;refine cO a (λf()=>[(1,.ptr 14 0),(5,H f)]) (λf()=>[(14,.cells 41 (bz t))]) ?_ ?_ ?_
 .exact c8
 .rintro f I ce ⟨⟩ aZ N a;rw[aU]at a;refine aq<|ak [(3,Y (bk aW t.Links))] [] [(70,.d ((f:Int)<t.Links.length))] ?_
  refine aI (cL N)<|aK<|aq<|aX<|aV [(3,be (ix aW (bU N))),(5,.al 564)] [70] [(6,.ptr 564 0)] [] [(564,.cells 139 (dJ I))] ?_
  obtain⟨am,ag,a⟩:=cV a;refine cW am r (λD=>[(1,.ptr 14 0),(5,H f),(97,.bool D)]) (λD=>[(14,.cells 41 (bz t))]) ?_ ?_
  .obtain⟨b4,w,a⟩:=az a;rcases aC a with⟨p,a⟩|⟨p,a⟩
   .exact b0 [(2,aB (uJ w) tw),(4,Y (ax p))] [6] [(97,.bool true)] [564] []<|aT true a
   obtain⟨b2,A,a⟩:=az a;rcases aC a with⟨x,a⟩|⟨x,a⟩
   .exact b0 [(2,aB (uJ w) tw),(4,Y (ax p)),(7,aB (uJ A) tw),(10,Y (ax x))] [6] [(97,.bool true)] [564] []<|aT true a
   rcases aC a with⟨F,a⟩|⟨F,a⟩
   .exact b0 [(2,aB (uJ w) tw),(4,Y (ax p)),(7,aB (uJ A) tw),(10,Y (ax x)),(15,Y (ax F))] [6] [(97,.bool true)] [564] []<|aT true a
   exact b0 [(2,aB (uJ w) tw),(4,Y (ax p)),(7,aB (uJ A) tw),(10,Y (ax x)),(15,Y (ax F))] [6] [(97,.d (1000<I.fo))] [564] []<|aT (decide (1000<I.fo)) a
  rintro D a;rw[ag]at a;rcases aC a with⟨L,a⟩|⟨L,a⟩
  .exact aI L<|aj [] [(2,H 2)] []<|aN
  exact aH L<|aK<|a7 [(1,Y (cI N aL))] [5,97] [(5,H ((f+1:Nat):Int))]<|aT () a
 rintro f ⟨⟩ aZ aR a;rw[aY]at a;refine aq<|ak [(3,Y (bk aW t.Links))] [] [(70,.d ((f:Int)<t.Links.length))] ?_
 refine aH (cK aR)<|bQ<|aq<|ak [] [5,70] [(7,H 0)]<|aX<|aFm 1 1 rfl rfl rfl λa4=>?_
 obtain⟨bW,bR,bt,bj,a⟩:=cG a;refine cO a (λg()=>[(1,.ptr 14 0),(7,H g)]) (λg()=>[(14,.cells 41 (bz t))]) ?_ ?_ ?_
 .exact c8
 .rintro g cd ci ⟨⟩ bv s a;rw[bt]at a;refine aq<|ak [(3,Y (bk aW t.Links))] [] [(102,.d ((g:Int)<t.Links.length))] ?_
  refine aI (cL s)<|aK<|aq<|aX ?_
  obtain⟨V,ar,a⟩:=cV a;refine cW V r (λG=>[(1,.ptr 14 0),(7,H g),(124,.bool G)]) (λG=>[(14,.cells 41 (bz t))]) ?_ ?_
  .obtain⟨b3,S,a⟩:=az a;rcases aC a with⟨M,a⟩|⟨M,a⟩
   .exact a7 [(4,be (ix aW (bU s))),(7,aB (E7 S) Da),(9,Y (ax M))] [102] [(124,.bool true)]<|aT true a
   obtain⟨T,ao,a⟩:=az a;exact a7 [(4,be (ix aW (bU s))),(7,aB (E7 S) Da),(9,Y (ax M)),(14,be (ix aW (bU s))),(17,aB (E7 ao) Da)] [102] [(124,.bool (!T))]<|aT (!T) a
  rintro G a;rw[ar]at a;rcases aC a with⟨O,a⟩|⟨O,a⟩
  .exact aI O<|aj [] [(2,H 4)] []<|aN
  exact aH O<|aK<|a7 [(1,Y (cI s a4))] [7,124] [(7,H ((g+1:Nat):Int))]<|aT () a
 rintro g ⟨⟩ bv a9 a;rw[bj]at a;refine aq<|ak [(3,Y (bk aW t.Links))] [] [(102,.d ((g:Int)<t.Links.length))] ?_
 refine aH (cK a9)<|bQ<|aq<|ak [] [7,102] [(8,H 0)]<|aX<|aFm 1 1 rfl rfl rfl λbD=>?_
 obtain⟨bZ,bT,bh,bo,a⟩:=cG a;refine cO a (λk()=>[(1,.ptr 14 0),(8,H k)]) (λk()=>[(14,.cells 41 (bz t))]) ?_ ?_ ?_
 .exact c8
 .rintro k U cj ⟨⟩ bw y a;rw[bh]at a;refine aq<|ak [(3,Y (bk aW t.Links))] [] [(129,.d ((k:Int)<t.Links.length))] ?_
  refine aI (cL y)<|aK<|aq<|aX<|ak [(3,be (ix aW (bU y))),(9,be (ix aW (bU y)))] [129] [(144,.d (U.B<=U.A))] ?_
  rcases aC a with⟨P,a⟩|⟨P,a⟩
  .exact aI P<|aj [] [(2,H 8)] []<|aN
  exact aH P<|aK<|a7 [(1,Y (cI y bD))] [8,144] [(8,H ((k+1:Nat):Int))]<|aT () a
 rintro k ⟨⟩ bw a2 a;rw[bo]at a;refine aq<|ak [(3,Y (bk aW t.Links))] [] [(129,.d ((k:Int)<t.Links.length))] ?_
 refine aH (cK a2)<|bQ<|aq<|ak [] [8,129] [(9,H 1)]<|aX<|aFm 1 1 rfl rfl rfl λbF=>?_
 obtain⟨ba,bc,bi,bs,a⟩:=cG a;refine aF0 (l:=t.Links) (oM:=1) (B:=ba) (K:=bc) a (λh()=>[(1,.ptr 14 0),(9,H h)]) (λh()=>[(14,.cells 41 (bz t))]) ?_ ?_ ?_
 .exact c8
 .rintro h c cm ⟨⟩ bx R a;rw[bi]at a;refine aq<|ak [(3,Y (bk aW t.Links))] [] [(149,.d ((h:Int)<t.Links.length))] ?_
  refine aI (cL R)<|aK<|aq<|aX ?_
  obtain⟨b,W,a⟩:=az a;refine aV [(4,be (ix aW W)),(9,be (ix aW (bU R))),(11,.al 565),(12,.al 566)] [149] [(10,.ptr 565 0),(11,.ptr 566 0)] [] [(565,.cells 139 (dJ b)),(566,.cells 139 (dJ c))]<|aFe [(1,.ptr 14 0),(9,H h),(181,.bool ((decide (c.A<b.A))||((decide (b.A=c.A))&&(decide (c.B<=b.B)))))] [(14,.cells 41 (bz t))] (λd=>?_) ?_
  .rcases eU (decide (c.A<b.A))with j|j
   .exact aj [(5,Y (ax j)),(18,Y (hj (q:=((decide (b.A=c.A))&&(decide (c.B<=b.B)))) j))] _ _ d
   rcases eU (decide (b.A=c.A))with u|u
   .exact aj [(5,Y (ax j)),(11,Y (ax u)),(18,Y ((ko (q:=decide (c.B<=b.B)) u).trans (eW (q:=((decide (b.A=c.A))&&(decide (c.B<=b.B)))) j)))] _ _ d
   exact aj [(5,Y (ax j)),(11,Y (ax u)),(18,Y ((kK (q:=decide (c.B<=b.B)) u).trans (eW (q:=((decide (b.A=c.A))&&(decide (c.B<=b.B)))) j)))] _ _ d
  rcases aC a with⟨Q,a⟩|⟨Q,a⟩
  .exact aI Q<|aj [] [(2,H 25)] []<|aN
  exact aH Q<|aK<|a7 [(1,Y (cI R bF))] [9,181] [(9,H ((h+1:Nat):Int))]<|aT () a
 rintro h ⟨⟩ bx bB a;rw[bs]at a;refine aq<|ak [(3,Y (bk aW t.Links))] [] [(149,.d ((h:Int)<t.Links.length))] ?_
 exact aH (cK bB)<|bQ<|aj [] [(2,H 0)] []<|aN
def Wp{b n r}(a:yZ b n=some r):bb au prog 31 [] [H b,H n] (H r):=by
 refine a5 func31 rfl rfl ?_;unfold yZ at a;refine aj [] [(0,H b),(1,H n)] []<|aq<|ak [] [] [(6,.d (n<1))] ?_
 rcases aC a with⟨e,a⟩|⟨e,a⟩
 .exact aI e<|aj [] [(4,H 0)] []<|aN
 refine aH e<|aK ?_
 obtain⟨h,a⟩:=g0 a;refine ak [(2,.qr n (fF h))] [0,6] [(0,H (Int.tmod b n))] ?_;obtain⟨g,f,a⟩:=cV a;refine cW g r (λc=>[(0,H c)]) (λc=>[]) ?_ ?_
 .refine ak [] [] [(11,.d (Int.tmod b n<0))] ?_;rcases aC a with⟨d,a⟩|⟨d,a⟩
  .exact aI d<|lU [] [(0,H (a2 ((Int.tmod b n)+n)))] []<|aT (a2 ((Int.tmod b n)+n)) a
  exact aH d<|aK<|aT (Int.tmod b n) a
 rintro c a;rw[f]at a;exact aj [] [(4,H c)] []<|aN
variable {r:Int×cu}
def Jf{t}(a:uM t=some r):cz au prog 32 [(1,.cells 74 (cw t))] [.ptr 1 0] (eH (H r.1) [(1,.cells 74 (cw r.2))]):=by
 refine a5 func32 rfl rfl ?_;unfold uM at a;refine aj [] [(0,.ptr 1 0)] [(1,.cells 74 (cw t))]<|aq<|ak [(8,Y (bk aJ t.L))] [] [(12,.d ((t.L.length:Int)<=t.At))] ?_
 rcases aC a with⟨b,a⟩|⟨b,a⟩
 .exact aI b<|ak [] [0,12] [(2,H 0)]<|aN
 refine aH b<|aK<|aV [] [12] [] [1] [(1,.c 74 [an aJ t.L,H (a2 (t.At+1))])] ?_
 obtain⟨c,d,a⟩:=az a;exact ak [(9,be (ix aJ d))] [0] [(2,H c)]<|aN
def jh{t n}(a:h7 t n=some r):cz au prog 6 [(1,.cells 74 (cw t))] [.ptr 1 0,H n] (eH (H r.1) [(1,.cells 74 (cw r.2))]):=by
 refine a5 func6 rfl rfl ?_;unfold h7 at a;refine aj [] [(0,.ptr 1 0),(1,H n)] [(1,.cells 74 (cw t))] ?_;obtain⟨d,e,b,c,a⟩:=er a;exact aj [(1,b3 [] (Jf e) Ih),(3,aB (Wp c) abX)] [(4,H b)] [(1,.cells 74 (cw d.2))]<|aN
def uF{t low high}(a:oN t low high=some r):cz au prog 39 [(1,.cells 74 (cw t))] [.ptr 1 0,H low,H high] (eH (H r.1) [(1,.cells 74 (cw r.2))]):=by
 refine a5 func39 rfl rfl ?_;unfold oN at a;refine aj [] [(0,.ptr 1 0),(1,H low),(2,H high)] [(1,.cells 74 (cw t))] ?_;obtain⟨b,c,a⟩:=az a;exact aj [(6,b3 [] (jh c) jg)] [(6,H (a2 (low+b.1)))] [(1,.cells 74 (cw b.2))]<|aN
variable {au:Bool}
variable {ah0:Int}{t:aS}
def Bi{r}(a:x3 t ah0=some r):bb au prog 90 [] [.agg (bz t),H ah0] (.bool r):=by
 refine a5 func90 rfl rfl ?_;unfold x3 at a;refine aj [(0,.al 572)] [(1,H ah0),(2,.ptr 572 0)] [(572,.cells 41 (bz t))] ?_;obtain⟨f,c,a⟩:=az a;rcases aC a with⟨b,a⟩|⟨b,a⟩
 .obtain⟨d,e,a⟩:=az a;exact aj [(1,aB (Je c) Ik),(3,Y (ax b)),(6,aB (E7 e) Da)] [(4,.bool d)] []<|aN
 exact aj [(1,aB (Je c) Ik),(3,Y (ax b))] [(4,.bool false)] []<|aN
def VQ{r}(a:BJ t ah0=some r):bb au prog 167 [] [.agg (bz t),H ah0] (an aJ r):=by
 refine a5 func167 rfl rfl ?_;unfold BJ at a;refine aj [(0,.al 149)] [(1,H ah0),(2,.ptr 149 0)] [(149,.cells 41 (bz t))]<|ak [] [] [(5,.aF)]<|aq<|ak [] [] [(6,H 0)]<|aX<|aFm 2 0 rfl rfl rfl λj=>?_
 obtain⟨u,v,m,n,a⟩:=cG a;refine cO a (λb=>λc=>[(1,H ah0),(2,.ptr 149 0),(5,.own 184),(6,H b)]) (λb=>λc=>[(149,.cells 41 (bz t)),(184,.s 3 aJ c)]) ?_ ?_ ?_
 .exact cr [.ad 5 184 3 1] []
 .rintro b w s c l d a;rw[m]at a;refine aq<|ak [(3,Y (bk bJ t.bf))] [] [(13,.d ((b:Int)<t.bf.length))] ?_
  refine aI (cL d)<|aK ?_
  obtain⟨p,o,a⟩:=cV a;refine cW p r (λe=>[(1,H ah0),(2,.ptr 149 0),(5,.own 184),(6,H b)]) (λe=>[(149,.cells 41 (bz t)),(184,.s 3 aJ e)]) ?_ ?_
  .refine aX ?_;obtain⟨g,q,a⟩:=az a;refine ak [(5,be (ix bJ (bU d))),(8,aB (Vt q) SU)] [13] [(8,.bool g.2)]<|ak [] [8] [(28,.bool g.2)] ?_
   rcases aC a with⟨f,a⟩|⟨f,a⟩
   .refine aI f ?_;obtain⟨h,i,a⟩:=az a;exact b0 [(4,be (ix bJ (bU d))),(8,dS 461 (ap aJ (bytes:=8) (by decide) i))] [5,28] [(5,.own 461)] [184] [(461,.s 3 aJ h)]<|Exists.intro h (And.intro a (cr [.b8 461 184] []))
   exact aH f<|aK<|aT c a
  rintro e a;rw[o]at a;exact a7 [(1,Y (cI d j))] [6] [(6,H ((b+1:Nat):Int))]<|aT e a
 rintro b c l k a;rw[n]at a;refine aq<|ak [(3,Y (bk bJ t.bf))] [] [(13,.d ((b:Int)<t.bf.length))] ?_
 refine aH (cK k)<|bQ<|aj [] [(4,.own 184)] [(184,.s 3 aJ c)]<|c2 ?_
 obtain rfl:=cy a;exact c0 [.bL [184]]
variable {a b:Int}
def Vu{l r}(e:Bv l a b=some r):bb au prog 80 [] [an iL l,H a,H b] (.bool r):=by
 refine a5 func80 rfl rfl ?_;unfold Bv at e;refine aj [] [(0,an iL l),(1,H a),(2,H b)] []<|aq<|ak [] [] [(7,H 0)]<|aX<|aFd 0 rfl λn=>?_
 obtain⟨v,w,s,t,e⟩:=cG e;refine cO e (λg()=>[(0,an iL l),(1,H a),(2,H b),(7,H g)]) (λg()=>[]) ?_ ?_ ?_
 .exact c8
 .rintro g c u ⟨⟩ p d e;rw[s]at e;refine aq<|ak [(2,Y (bk iL l))] [] [(11,.d ((g:Int)<l.length))] ?_
  refine aI (cL d)<|aK<|aq<|aX<|aFe [(0,an iL l),(1,H a),(2,H b),(7,H g),(47,.bool (bif decide (c.dx=a)then((decide (c.bS=b))||((decide (c.dx=b))&&(decide (c.bS=a))))else((decide (c.dx=b))&&(decide (c.bS=a)))))] [] (λk=>?_) ?_
  .rcases eU (decide (c.dx=a))with f|f
   .rcases eU (decide (c.bS=b))with h|h
    .exact aj [(2,be (ix iL (bU d))),(7,Y (ax f)),(10,be (ix iL (bU d))),(16,Y (ax h)),(33,Y ((hj (q:=((decide (c.dx=b))&&(decide (c.bS=a)))) h).trans (IE (x:=((decide (c.bS=b))||((decide (c.dx=b))&&(decide (c.bS=a))))) (y:=((decide (c.dx=b))&&(decide (c.bS=a)))) f)))] _ _ k
    rcases eU (decide (c.dx=b))with i|i
    .exact aj [(2,be (ix iL (bU d))),(7,Y (ax f)),(10,be (ix iL (bU d))),(16,Y (ax h)),(19,be (ix iL (bU d))),(24,Y (ax i)),(27,be (ix iL (bU d))),(33,Y (((ko (q:=decide (c.bS=a)) i).trans (eW (q:=((decide (c.dx=b))&&(decide (c.bS=a)))) h)).trans (IE (x:=((decide (c.bS=b))||((decide (c.dx=b))&&(decide (c.bS=a))))) (y:=((decide (c.dx=b))&&(decide (c.bS=a)))) f)))] _ _ k
    exact aj [(2,be (ix iL (bU d))),(7,Y (ax f)),(10,be (ix iL (bU d))),(16,Y (ax h)),(19,be (ix iL (bU d))),(24,Y (ax i)),(33,Y (((kK (q:=decide (c.bS=a)) i).trans (eW (q:=((decide (c.dx=b))&&(decide (c.bS=a)))) h)).trans (IE (x:=((decide (c.bS=b))||((decide (c.dx=b))&&(decide (c.bS=a))))) (y:=((decide (c.dx=b))&&(decide (c.bS=a)))) f)))] _ _ k
   rcases eU (decide (c.dx=b))with j|j
   .exact aj [(2,be (ix iL (bU d))),(7,Y (ax f)),(19,be (ix iL (bU d))),(24,Y (ax j)),(27,be (ix iL (bU d))),(33,Y ((ko (q:=decide (c.bS=a)) j).trans (PD (x:=((decide (c.bS=b))||((decide (c.dx=b))&&(decide (c.bS=a))))) (y:=((decide (c.dx=b))&&(decide (c.bS=a)))) f)))] _ _ k
   exact aj [(2,be (ix iL (bU d))),(7,Y (ax f)),(19,be (ix iL (bU d))),(24,Y (ax j)),(33,Y ((kK (q:=decide (c.bS=a)) j).trans (PD (x:=((decide (c.bS=b))||((decide (c.dx=b))&&(decide (c.bS=a))))) (y:=((decide (c.dx=b))&&(decide (c.bS=a)))) f)))] _ _ k
  rcases aC e with⟨m,e⟩|⟨m,e⟩
  .exact aI m<|aj [] [(6,.bool true)] []<|aN
  exact aH m<|aK<|a7 [(1,Y (cI d n))] [7,47] [(7,H ((g+1:Nat):Int))]<|aT () e
 rintro g ⟨⟩ p o e;rw[t]at e;refine aq<|ak [(2,Y (bk iL l))] [] [(11,.d ((g:Int)<l.length))] ?_
 exact aH (cK o)<|bQ<|aj [] [(6,.bool false)] []<|aN
def U5{f r}(a:Bf t f=some r):bb au prog 21 [] [.agg (bz t),.agg (nP f)] (.agg (bz r)):=by
 refine a5 func21 rfl rfl ?_;unfold Bf at a;refine aj [(0,.al 57),(1,.al 58),(2,.al 49)] [(2,.ptr 57 0),(3,.ptr 58 0),(4,.ptr 49 0)] [(57,.cells 41 (bz t)),(58,.cells 87 (nP f)),(49,.c 41 [.aF,.aF])]<|aq ?_
 obtain⟨A,V,a⟩:=az a;refine ak [(1,aB (Je V) Ik)] [] [(11,.bool (!decide (A=0)))] ?_;rcases aC a with⟨l,a⟩|⟨l,a⟩
 .exact aI l<|aV [] [2,3,11] [] [57,58] []<|aN
 refine aH l<|aK<|aV [(0,.al 66)] [11] [(5,.ptr 66 0)] [] [(66,.c 41 [.aF,.aF])]<|aq<|ak [] [] [(6,H 0)]<|aX<|aFm 2 0 rfl rfl rfl λE=>?_
 obtain⟨aa,ab,I,J,a⟩:=cG a;refine cO a (λd=>λc=>[(2,.ptr 57 0),(3,.ptr 58 0),(4,.ptr 49 0),(5,.ptr 66 0),(6,H d)]) (λd=>λc=>[(57,.cells 41 (bz t)),(58,.cells 87 (nP f)),(49,.c 41 [.aF,.aF]),(66,.c 41 [.own 82,.aF]),(82,.s 82 bJ c)]) ?_ ?_ ?_
 .exact cr [.ac 66 82 82 2 0] []
 .rintro d an X c G g a;rw[I]at a;refine aq<|ak [(3,Y (bk bJ t.bf))] [] [(17,.d ((d:Int)<t.bf.length))] ?_
  refine aI (cL g)<|aK ?_
  obtain⟨L,K,a⟩:=cV a;refine cW L r (λi=>[(2,.ptr 57 0),(3,.ptr 58 0),(4,.ptr 49 0),(5,.ptr 66 0),(6,H d)]) (λi=>[(57,.cells 41 (bz t)),(58,.cells 87 (nP f)),(49,.c 41 [.aF,.aF]),(66,.c 41 [.own 82,.aF]),(82,.s 82 bJ i)]) ?_ ?_
  .refine aX ?_;obtain⟨y,z,a⟩:=az a;refine ak [(5,be (ix bJ (bU g))),(8,aB (sH z) r1)] [17] [(29,.bool (!y))] ?_;rcases aC a with⟨k,a⟩|⟨k,a⟩
   .refine aI k ?_;obtain⟨v,B,a⟩:=az a;exact b0 [(5,be (ix bJ (bU g))),(8,dS 465 (ap bJ (bytes:=16) (by decide) B))] [29] [] [66,82] [(66,.c 41 [.own 465,.aF]),(465,.s 82 bJ v)]<|Exists.intro v (And.intro a (cr [.b8 465 82] []))
   exact aH k<|aK<|aT c a
  rintro i a;rw[K]at a;exact a7 [(1,Y (cI g E))] [6] [(6,H ((d+1:Nat):Int))]<|aT i a
 rintro d c G F a;rw[J]at a;refine aq<|ak [(3,Y (bk bJ t.bf))] [] [(17,.d ((d:Int)<t.bf.length))] ?_
 refine aH (cK F)<|bQ<|aq<|ak [] [6,17] [(7,H 0)]<|aX<|aFm 2 1 rfl rfl rfl λO=>?_
 obtain⟨am,ag,Q,R,a⟩:=cG a;refine cO a (λb=>λe=>[(2,.ptr 57 0),(3,.ptr 58 0),(4,.ptr 49 0),(5,.ptr 66 0),(7,H b)]) (λb=>λe=>[(57,.cells 41 (bz t)),(58,.cells 87 (nP f)),(49,.c 41 [.aF,.aF]),(66,.c 41 [.own 82,.own 144]),(82,.s 82 bJ c),(144,.s 139 aW e)]) ?_ ?_ ?_
 .exact cr [.ac 66 144 139 5 1] []
 .rintro b x ae e S q a;rw[Q]at a;refine aq<|ak [(3,Y (bk aW t.Links))] [] [(44,.d ((b:Int)<t.Links.length))] ?_
  refine aI (cL q)<|aK ?_
  obtain⟨C,M,a⟩:=cV a;refine cW C r (λj=>[(2,.ptr 57 0),(3,.ptr 58 0),(4,.ptr 49 0),(5,.ptr 66 0),(7,H b)]) (λj=>[(57,.cells 41 (bz t)),(58,.cells 87 (nP f)),(49,.c 41 [.aF,.aF]),(66,.c 41 [.own 82,.own 144]),(82,.s 82 bJ c),(144,.s 139 aW j)]) ?_ ?_
  .refine aX<|aV [(3,be (ix aW (bU q))),(5,.al 257)] [44] [(8,.ptr 257 0)] [] [(257,.cells 139 (dJ x))] ?_
   obtain⟨T,U,a⟩:=cV a;refine cW T r (λo=>[(2,.ptr 57 0),(3,.ptr 58 0),(4,.ptr 49 0),(5,.ptr 66 0),(7,H b),(8,.ptr 257 0),(75,.bool o)]) (λo=>[(57,.cells 41 (bz t)),(58,.cells 87 (nP f)),(49,.c 41 [.aF,.aF]),(66,.c 41 [.own 82,.own 144]),(82,.s 82 bJ c),(144,.s 139 aW e),(257,.cells 139 (dJ x))]) ?_ ?_
   .obtain⟨W,n,a⟩:=az a;rcases aC a with⟨h,a⟩|⟨h,a⟩
    .obtain⟨Z,w,a⟩:=az a;rcases aC a with⟨p,a⟩|⟨p,a⟩
     .obtain⟨u,D,a⟩:=az a;exact a7 [(4,aB (sH n) r1),(6,Y (ax h)),(11,aB (sH w) r1),(14,Y (ax p)),(21,aB (Vu D) acj)] [] [(75,.bool (!u))]<|aT (!u) a
     exact a7 [(4,aB (sH n) r1),(6,Y (ax h)),(11,aB (sH w) r1),(14,Y (ax p))] [] [(75,.bool false)]<|aT false a
    exact a7 [(4,aB (sH n) r1),(6,Y (ax h))] [] [(75,.bool false)]<|aT false a
   rintro o a;rw[U]at a;rcases aC a with⟨m,a⟩|⟨m,a⟩
   .refine aI m ?_;obtain⟨s,P,a⟩:=az a;exact b0 [(4,dS 466 (ap aW (bytes:=40) (by decide) P))] [8,75] [] [66,144,257] [(66,.c 41 [.own 82,.own 466]),(466,.s 139 aW s)]<|Exists.intro s (And.intro a (cr [.b8 466 144] []))
   exact aH m<|aK<|aT e a
  rintro j a;rw[M]at a;exact a7 [(1,Y (cI q O))] [7] [(7,H ((b+1:Nat):Int))]<|aT j a
 rintro b e S N a;rw[R]at a;refine aq<|ak [(3,Y (bk aW t.Links))] [] [(44,.d ((b:Int)<t.Links.length))] ?_
 refine aH (cK N)<|bQ<|aV [] [2,3,5,7,44] [] [57,58,49,66] [(49,.c 41 [.own 82,.own 144])]<|c2 ?_
 obtain rfl:=cy a;exact c0 [.bL [82,144]]
def Vm{r}(a:Bh t ah0=some r):bb au prog 91 [] [.agg (bz t),H ah0] (an aJ r):=by
 refine a5 func91 rfl rfl ?_;unfold Bh at a;refine aj [(0,.al 120)] [(1,H ah0),(2,.ptr 120 0)] [(120,.cells 41 (bz t))]<|aV [(1,.al 388)] [1] [(5,.own 388)] [] [(388,.s 3 aJ ([ah0]:bX))]<|aq<|ak [] [] [(6,H 0)]<|aX ?_
 obtain⟨T,S,E,a⟩:=jL a;refine aFn a (λ(b,c)=>[(2,.ptr 120 0),(5,.own 81),(6,H c)]) (λ(b,c)=>[(120,.cells 41 (bz t)),(81,.s 3 aJ b)]) ?_ ?_
 .exact cr [.b8 388 81] []
 rintro M ⟨b,c⟩ a;rw[E]at a;refine aq<|ak [(2,Y (bk aJ b))] [] [(16,.d (c<(b.length:Int)))] ?_
 rcases aC a with⟨m,a⟩|⟨m,a⟩
 .refine aI m<|aK<|aq<|aX ?_
  obtain⟨L,p,e,s,a⟩:=er a;refine ak [(3,be (ix aJ p)),(4,fK 81 0 (ix aJ p)),(5,aB (VQ s) Th)] [16] [(7,an aJ e)]<|ak [] [] [(8,H 0)]<|aX<|aFd 7 rfl λA=>?_
  obtain⟨R,P,B,C,a⟩:=cG a;refine cO a (λd=>λg=>[(2,.ptr 120 0),(5,.own 81),(6,H c),(7,an aJ e),(8,H d)]) (λd=>λg=>[(120,.cells 41 (bz t)),(81,.s 3 aJ g)]) ?_ ?_ ?_
  .exact c8
  .rintro d W O g D i a;rw[B]at a;refine aq<|ak [(2,Y (bk aJ e))] [] [(28,.d ((d:Int)<e.length))] ?_
   refine aI (cL i)<|aK ?_
   obtain⟨w,v,a⟩:=cV a;refine cW w r (λj=>[(2,.ptr 120 0),(5,.own 81),(6,H c),(7,an aJ e),(8,H d)]) (λj=>[(120,.cells 41 (bz t)),(81,.s 3 aJ j)]) ?_ ?_
   .refine aX ?_;obtain⟨q,u,a⟩:=az a;refine ak [(3,be (ix aJ (bU i))),(5,bt [81] (sH u) r1)] [28] [(37,.bool (!q))] ?_;rcases aC a with⟨l,a⟩|⟨l,a⟩
    .refine aI l ?_;obtain⟨o,x,a⟩:=az a;exact b0 [(3,be (ix aJ (bU i))),(6,dS 487 (ap aJ (bytes:=8) (by decide) x))] [5,37] [(5,.own 487)] [81] [(487,.s 3 aJ o)]<|Exists.intro o (And.intro a (cr [.b8 487 81] []))
    exact aH l<|aK<|aT g a
   rintro j a;rw[v]at a;exact a7 [(1,Y (cI i A))] [8] [(8,H ((d+1:Nat):Int))]<|aT j a
  rintro d g D z a;rw[C]at a;refine aq<|ak [(2,Y (bk aJ e))] [] [(28,.d ((d:Int)<e.length))] ?_
  exact aH (cK z)<|bQ<|a7 [] [6,7,8,28] [(6,H (a2 (c+1)))]<|aT (g,a2 (c+1)) a
 refine aH m<|bQ<|aV [] [2,6,16] [(9,.aF)] [120] []<|aq<|ak [] [] [(10,H 0)]<|aX<|aF2 5 rfl rfl λF=>?_
 obtain⟨U,V,I,J,a⟩:=cG a;refine cO a (λf=>λh=>[(5,.own 81),(9,an aJ h),(10,H f)]) (λf=>λh=>[(81,.s 3 aJ b)]) ?_ ?_ ?_
 .exact cr [] [9]
 .rintro f N Q h K k a;rw[I]at a;refine aq<|ak [(2,Y (bk aJ b))] [] [(48,.d ((f:Int)<b.length))] ?_
  refine aI (cL k)<|aK<|aq<|aX ?_
  obtain⟨n,y,a⟩:=az a;exact a7 [(3,be (ix aJ (bU k))),(4,fK 81 0 (ix aJ (bU k))),(5,aB (Vl y) Ti)] [9,48] [(9,an aJ n)]<|a7 [(1,Y (cI k F))] [10] [(10,H ((f+1:Nat):Int))]<|Exists.intro n (And.intro a (cr [] [9]))
 rintro f h K G a;rw[J]at a;refine aq<|ak [(2,Y (bk aJ b))] [] [(48,.d ((f:Int)<b.length))] ?_
 exact aH (cK G)<|bQ<|aj [] [(4,an aJ h)] []<|aN
def Uw{r}(c:AU t a b=some r):bb au prog 33 [] [.agg (bz t),H a,H b] (.bool r):=by
 refine a5 func33 rfl rfl ?_;unfold AU at c;refine aj [(0,.al 545)] [(1,H a),(2,H b),(3,.ptr 545 0)] [(545,.cells 41 (bz t))] ?_;obtain⟨m,f,c⟩:=az c;rcases aC c with⟨d,c⟩|⟨d,c⟩
 .obtain⟨k,g,c⟩:=az c;rcases aC c with⟨e,c⟩|⟨e,c⟩
  .obtain⟨l,h,j,i,c⟩:=er c;exact aj [(2,aB (Bi f) zI),(3,Y (ax d)),(6,aB (Bi g) zI),(8,Y (ax e)),(11,aB (Vm h) aco),(13,aB (sH i) r1)] [(6,.bool j)] []<|aN
  exact aj [(2,aB (Bi f) zI),(3,Y (ax d)),(6,aB (Bi g) zI),(8,Y (ax e))] [(6,.bool false)] []<|aN
 exact aj [(2,aB (Bi f) zI),(3,Y (ax d))] [(6,.bool false)] []<|aN
variable {au:Bool}
variable {l:bX}{r:Int×cu}{t:cu}
def xw(a:p2 t l=some r):cz au prog 40 [(1,.cells 74 (cw t))] [.ptr 1 0,an aJ l] (eH (H r.1) [(1,.cells 74 (cw r.2))]):=by
 refine a5 func40 rfl rfl ?_;unfold p2 at a;refine aj [] [(0,.ptr 1 0),(1,an aJ l)] [(1,.cells 74 (cw t))] ?_;obtain⟨c,e,d,b,a⟩:=er a;exact aj [(3,Y (bk aJ l)),(4,b3 [] (jh e) jg),(5,be (ix aJ b))] [(4,H d)] [(1,.cells 74 (cw c.2))]<|aN
def Jg{n r}(a:uN t n=some r):cz au prog 43 [(1,.cells 74 (cw t))] [.ptr 1 0,H n] (eH (.bool r.1) [(1,.cells 74 (cw r.2))]):=by
 refine a5 func43 rfl rfl ?_;unfold uN at a;refine aj [] [(0,.ptr 1 0),(1,H n)] [(1,.cells 74 (cw t))] ?_;obtain⟨b,c,a⟩:=az a;exact aj [(2,b3 [] (jh c) jg)] [(4,.d (b.1=a2 (n-1)))] [(1,.cells 74 (cw b.2))]<|aN
def JT(a:xg t=some r):cz au prog 38 [(1,.cells 74 (cw t))] [.ptr 1 0] (eH (H r.1) [(1,.cells 74 (cw r.2))]):=by
 refine a5 func38 rfl rfl ?_;unfold xg at a;refine aj [] [(0,.ptr 1 0)] [(1,.cells 74 (cw t))] ?_;obtain⟨b,c,a⟩:=az a;exact aj [(2,b3 [] (xw c) wH)] [(2,H b.1)] [(1,.cells 74 (cw b.2))]<|aN
def V5{l r}(a:yu l=some r):cz au prog 61 [] [an aW l] (eH (.own 262) [(262,.s 139 aW r)]):=by
 refine a5 func61 rfl rfl ?_;unfold yu at a;refine aj [] [(0,an aW l)] []<|ak [] [] [(3,.aF)]<|aq<|ak [] [] [(4,H 0)]<|aX<|aFd 0 rfl λu=>?_
 obtain⟨I,J,x,y,a⟩:=cG a;refine cO a (λd=>λb=>[(0,an aW l),(3,.own 84),(4,H d)]) (λd=>λb=>[(84,.s 139 aW b)]) ?_ ?_ ?_
 .exact cr [.ad 3 84 139 5] []
 .rintro d o G b w e a;rw[x]at a;refine aq<|ak [(2,Y (bk aW l))] [] [(10,.d ((d:Int)<l.length))] ?_
  refine aI (cL e)<|aK<|aq<|aX<|ak [] [10] [(5,H 0)]<|aq<|aX ?_
  obtain⟨N,M,E,a⟩:=jL a;refine aFn a (λf=>[(0,an aW l),(3,.own 84),(4,H d),(5,H f)]) (λf=>[(84,.s 139 aW b)]) ?_ ?_
  .exact c8
  rintro K f a;rw[E]at a;refine aq ?_;obtain⟨A,z,a⟩:=cV a;refine cW A r (λj=>[(0,an aW l),(3,.own 84),(4,H d),(5,H f),(55,.bool j)]) (λj=>[(84,.s 139 aW b)]) ?_ ?_
  .rcases aC a with⟨g,a⟩|⟨g,a⟩
   .obtain⟨m,c,a⟩:=az a;rcases aC a with⟨h,a⟩|⟨h,a⟩
    .exact a7 [(2,Y (bk aW b)),(4,Y (ax g)),(7,be (ix aW c)),(9,fK 84 0 (ix aW c)),(12,be (ix aW (bU e))),(16,Y (ax h))] [] [(55,.bool true)]<|aT true a
    rcases aC a with⟨i,a⟩|⟨i,a⟩
    .exact a7 [(2,Y (bk aW b)),(4,Y (ax g)),(7,be (ix aW c)),(9,fK 84 0 (ix aW c)),(12,be (ix aW (bU e))),(16,Y (ax h)),(19,be (ix aW c)),(21,fK 84 0 (ix aW c)),(24,be (ix aW (bU e))),(28,Y (ax i)),(31,be (ix aW c)),(33,fK 84 1 (ix aW c)),(36,be (ix aW (bU e)))] [] [(55,.d (m.B<o.B))]<|aT (decide (m.B<o.B)) a
    exact a7 [(2,Y (bk aW b)),(4,Y (ax g)),(7,be (ix aW c)),(9,fK 84 0 (ix aW c)),(12,be (ix aW (bU e))),(16,Y (ax h)),(19,be (ix aW c)),(21,fK 84 0 (ix aW c)),(24,be (ix aW (bU e))),(28,Y (ax i))] [] [(55,.bool false)]<|aT false a
   exact a7 [(2,Y (bk aW b)),(4,Y (ax g))] [] [(55,.bool false)]<|aT false a
  rintro j a;rw[z]at a;rcases aC a with⟨k,a⟩|⟨k,a⟩
  .exact aI k<|aK<|aX<|a7 [] [5,55] [(5,H (a2 (f+1)))]<|aT (a2 (f+1)) a
  refine aH k<|bQ<|ak [] [55] [(6,.aF)] ?_
  obtain⟨F,p,t,q,a⟩:=er a;refine aFx fN [.bL [84]] [(3,fB (sl aW p)),(4,dS 555 (ap aW (bytes:=40) (by decide) q))] [(0,an aW l),(3,.own 84),(4,H d),(5,H f),(6,.own 555)] [(84,.slice 139 5 (bc aW b) (bc aW b).length true),(555,.s 139 aW t)] (by kernel_rfl) ?_;obtain⟨D,B,a⟩:=az a;refine aj [(3,be (ix aW (bU e))),(6,dS 556 (ap aW (bytes:=40) (by decide) B))] [(0,an aW l),(3,.own 84),(4,H d),(5,H f),(6,.own 556)] [(84,.slice 139 5 (bc aW b) (bc aW b).length true),(556,.s 139 aW D)] ?_;obtain⟨L,C,n,s,a⟩:=er a;exact b0 [(3,fB (zL aW C)),(4,dS 382 (ap aW (bytes:=40) (by decide) s))] [3,5,6] [(3,.own 382)] [84,556] [(382,.s 139 aW n)]<|a7 [(1,Y (cI e u))] [4] [(4,H ((d+1:Nat):Int))]<|Exists.intro n (And.intro a (cr [.b8 382 84] []))
 rintro d b w v a;rw[y]at a;refine aq<|ak [(2,Y (bk aW l))] [] [(10,.d ((d:Int)<l.length))] ?_
 refine aH (cK v)<|bQ<|ak [] [0,3,4,10] [(2,.own 84)]<|c2 ?_
 obtain rfl:=cy a;exact c0 [.b8 84 262]
def Wq{r}(a:y0 l=some r):cz au prog 4 [] [an aJ l] (eH (.ptr 1 0) [(1,.cells 74 (cw r))]):=by
 refine a5 func4 rfl rfl ?_;unfold y0 at a;refine aj [] [(0,an aJ l)] [] ?_;obtain⟨f,e,a⟩:=cV a;refine cW f r (λb=>[(0,an aJ b)]) (λb=>[]) ?_ ?_
 .refine ak [(1,Y (bk aJ l))] [] [(5,.d (600<(l.length:Int)))] ?_;rcases aC a with⟨c,a⟩|⟨c,a⟩
  .refine aI c ?_;obtain⟨d,g,a⟩:=az a;exact lU [(1,fB (sl aJ g))] [(0,an aJ d)] []<|Exists.intro d (And.intro a (cr [] [0]))
  exact aH c<|aK<|Exists.intro l (And.intro a (cr [] [0]))
 rintro b a;rw[e]at a;refine aj [(2,.al 479)] [(2,.ptr 479 0)] [(479,.c 74 [an aJ b,H 0])]<|c2 ?_
 obtain rfl:=cy a;exact c0 [.b8 479 1]
def Un{D r}(a:AJ t D=some r):cz au prog 16 [(1,.cells 74 (cw t))] [.ptr 1 0,H D,H 0] (eH (.agg [.own 23,.own 24]) [(1,.cells 74 (cw r.2)),(23,.s 82 bJ r.1.bf),(24,.s 139 aW r.1.Links)]):=by
 refine a5 func16 rfl rfl ?_;unfold AJ at a;refine aj [(0,.al 28)] [(0,.ptr 1 0),(1,H D),(2,H 0),(6,.ptr 28 0)] [(1,.cells 74 (cw t)),(28,.c 41 [.aF,.aF])]<|aV [(0,.al 32)] [] [(7,.ptr 32 0)] [] [(32,.c 41 [.aF,.aF])] ?_
 obtain⟨b,aR,a⟩:=az a;refine aV [(2,b3 [] (uF aR) tX)] [1] [(8,H b.1)] [1] [(1,.cells 74 (cw b.2))]<|aq<|ak [] [] [(9,H 1)]<|aX ?_
 obtain⟨aG,a⟩:=g0 a;obtain⟨aY,aZ,Q,R,a⟩:=sR a;refine aFE (hi:=(b.1+1)) a rfl (λf=>λe=>[(0,.ptr 1 0),(2,H 0),(6,.ptr 28 0),(7,.ptr 32 0),(8,H b.1),(9,H f)]) (λf=>λe=>[(1,.cells 74 (cw b.2)),(28,.c 41 [.aF,.aF]),(32,.c 41 [.own 46,.aF]),(46,.s 82 bJ e)]) ?_ ?_ ?_
 .exact cr [.ac 32 46 82 2 0] []
 .rintro f aU e P F a;rw[Q]at a;refine aq<|ak [] [] [(21,.d ((f:Int)<=b.1))] ?_
  refine aFu rfl (IQ F)<|aK<|aq<|aX ?_
  obtain⟨G,K,a⟩:=az a;exact b0 [(5,dS 362 (ap bJ (bytes:=16) (by decide) K))] [21] [] [32,46] [(32,.c 41 [.own 362,.aF]),(362,.s 82 bJ G)]<|a7 [(1,Y (si (by omega) F (fF aG)))] [9] [(9,H (f+1:Int))]<|Exists.intro G (And.intro a (cr [.b8 362 46] []))
 rintro f e P O a;rw[R]at a;refine aq<|ak [] [] [(21,.d ((f:Int)<=b.1))] ?_
 refine aFl rfl (IA O)<|bQ ?_
 obtain⟨h,L,a⟩:=az a;refine aV [(2,b3 [] (xw L) wH)] [9,21] [(10,H h.1)] [1] [(1,.cells 74 (cw h.2))]<|aq<|ak [] [] [(11,H 2)]<|aX ?_
 obtain⟨aL,a⟩:=g0 a;obtain⟨bc,ba,aa,ab,a⟩:=sR a;refine aFE (hi:=(b.1+1)) a rfl (λc(q,p,s)=>[(0,.ptr 1 0),(2,H 0),(6,.ptr 28 0),(7,.ptr 32 0),(8,H b.1),(10,H h.1),(11,H c)]) (λc(q,p,s)=>[(1,.c 74 [an aJ p,H s]),(28,.c 41 [.aF,.aF]),(32,.c 41 [.own 46,.own 104]),(46,.s 82 bJ e),(104,.s 139 aW q)]) ?_ ?_ ?_
 .exact cr [.ac 32 104 139 5 1] []
 .rintro c a9 ⟨q,p,s⟩ ae I a;rw[aa]at a;refine aq<|ak [] [] [(36,.d ((c:Int)<=b.1))] ?_
  refine aFu rfl (IQ I)<|aK<|aq<|aX ?_
  obtain⟨k,U,a⟩:=az a;refine aV [(3,b3 [] (uF U) tX)] [36] [(12,H k.1)] [1] [(1,.cells 74 (cw k.2))] ?_;obtain⟨n,V,a⟩:=az a;refine aV [(1,b3 [] (Jg V) Ij)] [] [(13,.bool n.1)] [1] [(1,.cells 74 (cw n.2))]<|ak [] [] [(14,H 1)]<|aX ?_
  obtain⟨aN,a⟩:=g0 a;obtain⟨be,bh,aB,aD,a⟩:=sR a;refine aFE (hi:=(c:Int)) a rfl (λd(g,i,j)=>[(0,.ptr 1 0),(2,H 0),(6,.ptr 28 0),(7,.ptr 32 0),(8,H b.1),(10,H h.1),(11,H c),(12,H k.1),(13,.bool n.1),(14,H d)]) (λd(g,i,j)=>[(1,.c 74 [an aJ i,H j]),(28,.c 41 [.aF,.aF]),(32,.c 41 [.own 46,.own 104]),(46,.s 82 bJ e),(104,.s 139 aW g)]) ?_ ?_ ?_
  .exact c8
  .rintro d bb ⟨g,i,j⟩ aE J a;rw[aB]at a;refine aq<|ak [] [] [(47,.d ((d:Int)<c))] ?_
   refine aFu rfl (fU J)<|aK ?_
   obtain⟨T,S,a⟩:=cV a;refine cW T r (λ(u,v,y)=>[(0,.ptr 1 0),(2,H 0),(6,.ptr 28 0),(7,.ptr 32 0),(8,H b.1),(10,H h.1),(11,H c),(12,H k.1),(13,.bool n.1),(14,H d)]) (λ(u,v,y)=>[(1,.c 74 [an aJ u,H v]),(28,.c 41 [.aF,.aF]),(32,.c 41 [.own 46,.own 104]),(46,.s 82 bJ e),(104,.s 139 aW y)]) ?_ ?_
   .refine aX ?_;obtain⟨M,W,a⟩:=cV a;refine cW M r (λ(B,w,x)=>[(0,.ptr 1 0),(2,H 0),(6,.ptr 28 0),(7,.ptr 32 0),(8,H b.1),(10,H h.1),(11,H c),(12,H k.1),(13,.bool n.1),(14,H d),(60,.bool B)]) (λ(B,w,x)=>[(1,.c 74 [an aJ w,H x]),(28,.c 41 [.aF,.aF]),(32,.c 41 [.own 46,.own 104]),(46,.s 82 bJ e),(104,.s 139 aW g)]) ?_ ?_
    .rcases aC a with⟨o,a⟩|⟨o,a⟩
     .rcases aC a with⟨z,a⟩|⟨z,a⟩
      .exact a7 [(3,Y (ax o)),(7,Y (ax z))] [47] [(60,.bool true)]<|aT (true,i,j) a
      obtain⟨l,N,a⟩:=az a;exact b0 [(3,Y (ax o)),(7,Y (ax z)),(9,b3 [] (Jg N) Ij)] [47] [(60,.bool l.1)] [1] [(1,.cells 74 (cw l.2))]<|aT (l.1,l.2.L,l.2.At) a
     obtain⟨m,Z,a⟩:=az a;exact b0 [(3,Y (ax o)),(9,b3 [] (Jg Z) Ij)] [47] [(60,.bool m.1)] [1] [(1,.cells 74 (cw m.2))]<|aT (m.1,m.2.L,m.2.At) a
    rintro⟨B,w,x⟩ a;rw[W]at a;rcases aC a with⟨A,a⟩|⟨A,a⟩
    .refine aI A ?_;obtain⟨a4,ag,a2,am,C,ao,a⟩:=mT a;obtain⟨E,aw,a⟩:=az a;exact b0 [(6,b3 [] (uF ag) tX),(9,b3 [] (uF am) tX),(11,b3 [] (jh ao) jg),(14,dS 460 (ap aW (bytes:=40) (by decide) aw))] [60] [] [1,32,104] [(1,.cells 74 (cw C.2)),(32,.c 41 [.own 46,.own 460]),(460,.s 139 aW E)]<|Exists.intro (C.2.L,C.2.At,E) (And.intro a (cr [.b8 460 104] []))
    exact aH A<|aK<|aT (w,x,g) a
   rintro⟨u,v,y⟩ a;rw[S]at a;exact a7 [(1,Y (si (by omega) J (fF aN)))] [14] [(14,H (d+1:Int))]<|aT (y,u,v) a
  rintro d ⟨g,i,j⟩ aE aA a;rw[aD]at a;refine aq<|ak [] [] [(47,.d ((d:Int)<c))] ?_
  exact aFl rfl (Ah aA)<|bQ<|a7 [(1,Y (si (by omega) I (fF aL)))] [11,12,13,14,47] [(11,H (c+1:Int))]<|aT (g,i,j) a
 rintro c ⟨q,p,s⟩ ae X a;rw[ab]at a;refine aq<|ak [] [] [(36,.d ((c:Int)<=b.1))] ?_
 refine aFl rfl (IA X)<|bQ ?_
 obtain⟨ar,ay,a⟩:=az a;refine aV [(2,kA [104] [262] (V5 ay) acd ⟨jM aW (λ_=>rfl) _,trivial⟩)] [8,10,11,36] [] [32,104] [(32,.c 41 [.own 46,.own 262]),(262,.s 139 aW ar)]<|aq<|ak [] [2] [(87,.bool false)]<|aFl rfl rfl<|aK<|aV [] [0,7,87] [] [28,32] [(28,.c 41 [.own 46,.own 262])]<|c2 ?_
 obtain rfl:=cy a;exact c0 [.b8 46 23,.b8 262 24]
def JU{g}(a:xh t g=some r):cz au prog 24 [(1,.cells 74 (cw t))] [.ptr 1 0,.agg (bz g),H 0] (eH (H r.1) [(1,.cells 74 (cw r.2))]):=by
 refine a5 func24 rfl rfl ?_;unfold xh at a;refine aj [(0,.al 410)] [(0,.ptr 1 0),(2,H 0),(4,.ptr 410 0)] [(1,.cells 74 (cw t)),(410,.cells 41 (bz g))]<|aq<|ak [(10,Y (bk bJ g.bf))] [2] [(19,.d ((g.bf.length:Int)=(0:Int)))] ?_
 rcases aC a with⟨b,a⟩|⟨b,a⟩
 .refine aI b ?_;cases a
 refine aH b<|aK ?_
 obtain⟨d,f,e,c,a⟩:=er a;exact aj [(5,Y (bk bJ g.bf)),(6,b3 [] (jh f) jg),(7,be (ix bJ c))] [(6,H e.aP)] [(1,.cells 74 (cw d.2))]<|aN
def Ux{g r}(a:AV t g=some r):cz au prog 22 [(1,.cells 74 (cw t))] [.ptr 1 0,.agg (bz g)] (eH (.agg [.own 324,.own 325]) [(1,.cells 74 (cw r.2)),(324,.s 174 iL r.1.Links),(325,.s 3 aJ r.1.bf)]):=by
 refine a5 func22 rfl rfl ?_;unfold AV at a;refine aj [(0,.al 258),(1,.al 132)] [(0,.ptr 1 0),(3,.ptr 258 0),(4,.ptr 132 0)] [(1,.cells 74 (cw t)),(258,.cells 41 (bz g)),(132,.c 87 [.aF,.aF])]<|aq ?_
 obtain⟨s,q,a⟩:=cV a;refine cW s r (λ(i,e,j)=>[(0,.ptr 1 0),(3,.ptr 258 0),(4,.ptr 132 0),(14,.bool i)]) (λ(i,e,j)=>[(1,.c 74 [an aJ e,H j]),(258,.cells 41 (bz g)),(132,.c 87 [.aF,.aF])]) ?_ ?_
 .rcases aC a with⟨f,a⟩|⟨f,a⟩
  .obtain⟨b,y,a⟩:=az a;exact b0 [(2,Y (bk aW g.Links)),(4,Y (ax f)),(6,b3 [] (jh y) jg)] [] [(14,.d (0<b.1))] [1] [(1,.cells 74 (cw b.2))]<|aT (decide (0<b.1),b.2.L,b.2.At) a
  exact a7 [(2,Y (bk aW g.Links)),(4,Y (ax f))] [] [(14,.bool false)]<|aT (false,t.L,t.At) a
 rintro⟨i,e,j⟩ a;rw[q]at a;rcases aC a with⟨d,a⟩|⟨d,a⟩
 .refine aI d ?_;obtain⟨m,n,c,o,a⟩:=er a;refine aV [(5,Y (bk aW g.Links)),(6,b3 [] (jh n) jg),(7,be (ix aW o)),(9,.al 409)] [3,14] [(5,.ptr 409 0)] [1,258] [(1,.cells 74 (cw m.2)),(409,.cells 139 (dJ c))]<|aq ?_
  obtain⟨l,u,a⟩:=az a;refine aV [(1,b3 [] (jh u) jg)] [0] [(26,.d (l.1=0))] [1] [(1,.cells 74 (cw l.2))] ?_;rcases aC a with⟨h,a⟩|⟨h,a⟩
  .refine aI h<|aV [(5,.al 467)] [5,26] [] [132,409] [(132,.c 87 [.own 467,.aF]),(467,.s 174 iL ([(j0.mk c.B c.A)]:List j0))]<|c2 ?_
   obtain rfl:=cy a;exact c0 [.b8 467 324,.ac 132 325 3 1 1]
  refine aH h<|aK<|aV [(5,.al 468)] [5,26] [] [132,409] [(132,.c 87 [.own 468,.aF]),(468,.s 174 iL ([(j0.mk c.A c.B)]:List j0))]<|c2 ?_
  obtain rfl:=cy a;exact c0 [.b8 468 324,.ac 132 325 3 1 1]
 refine aH d<|aK<|aq<|ak [(2,Y (bk bJ g.bf))] [14] [(44,.d ((g.bf.length:Int)=(0:Int)))] ?_
 rcases aC a with⟨k,a⟩|⟨k,a⟩
 .refine aI k<|aV [] [0,3,44] [] [258] []<|c2 ?_
  obtain rfl:=cy a;exact c0 [.ac 132 324 174 2 0,.ac 132 325 3 1 1]
 refine aH k<|aK ?_
 obtain⟨v,w,x,p,a⟩:=er a;refine aj [(5,Y (bk bJ g.bf)),(6,b3 [] (jh w) jg),(7,be (ix bJ p)),(10,.al 471)] [(4,.ptr 132 0)] [(1,.cells 74 (cw v.2)),(132,.c 87 [.aF,.own 471]),(471,.s 3 aJ ([x.aP]:bX))]<|c2 ?_
 obtain rfl:=cy a;exact c0 [.b8 471 325,.ac 132 324 174 2 0]
end
end Go.Proofs.YtemmkpdjmgafoaaGreatDoor
