/- Several texts in one. No condition but those that stand in each. -/
import Derived.Test.YtmnbolcmepihlaaGreatZ1
import Derived.Lib.SliceRun
import Derived.Laws.BytesString
import Derived.Scope
import Derived.Below
import Derived.ChangeSame
import Derived.WideKeyArgs
import Derived.ProofKit
import Derived.LoopN
namespace Go.Proofs.YtmnbolcmepihlaaGreat
section
set_option linter.all false
open Go List
section
def aW{α β:Type}(o:Option α)(k:α→Option β):Option β:=match o with|none=>none|some a=>k a
def cU{α β:Type}(o:Option α)(k:α→Option β)(z:Option β):Option β:=match o with|none=>z|some a=>k a
def jB{β:Type}(c:Bool)(k:Option β):Option β:=bif c then k else none
def jn{σ β:Type}(k:σ→Option β)(t:(σ→Option β)→Option β):Option β:=t k
def ez{α σ β:Type}:List α→Nat→(Int→α→(σ→Option β)→σ→Option β)→(σ→Option β)→σ→Option β
 |[],_,_,K,s=>K s
 |x::r,j,B,K,s=>B (j:Int) x (ez r (j+1) B K) s
def ng{σ β:Type}:Nat→Int→(Int→(σ→Option β)→σ→Option β)→(Int→σ→Option β)→σ→Option β
 |0,i,_,K,s=>K i s
 |n+1,i,B,K,s=>B i (ng n (i+1) B K) s
def iter{σ β:Type}(F:(σ→Option β)→σ→Option β):Nat→σ→Option β
 |0,_=>none
 |n+1,s=>F (iter F n) s
def fuel:Nat:=1099511627776
def jL{σ β:Type}(F:(σ→Option β)→σ→Option β)(s:σ):Option β:=iter F fuel s
def aF(n:Int):Int:=IntKind.wrap .i64 n
def di{α:Type}(l:List α)(i:Int):Option α:=if 0≤i then l[i.toNat]? else none
def lJ{α:Type}(l:List α)(i:Int)(x:α):Option (List α):=if 0≤i∧i<l.length then some (l.set i.toNat x)else none
def aO:Nat:=549755813888
def jR{α:Type}(l r:List α):Option (List α):=if l.length+r.length≤aO then some (l++r)else none
def ug{α:Type}(l:List α)(a b:Int):Option (List α):=if 0≤a∧a≤b∧b≤l.length then some ((l.take b.toNat).drop a.toNat)else none
def Ms(s:ByteArray)(n:Int):Option UInt8:=if 0≤n then s[n.toNat]? else none
def Y7{s:ByteArray}{n:Int}{b:UInt8}(h:Ms s n=some b):0≤n∧s[n.toNat]?=some b:=by
 unfold Ms at h;split at h
 ·exact⟨‹_›,h⟩
 ·cases h
variable {α β:Type}{r:β}
def bw{o:Option α}{k:α→Option β}(h:aW o k=some r):∃a,o=some a∧k a=some r:=by
 cases o with
 |none=>cases h
 |some a=>exact⟨a,rfl,h⟩
def qc{c:Bool}{k:Option β}(h:jB c k=some r):c=true∧k=some r:=by
 cases c with
 |false=>cases h
 |true=>exact⟨rfl,h⟩
def cD{c:Bool}{x y:Option β}(h:(bif c then x else y)=some r):(c=true∧x=some r)∨(c=false∧y=some r):=by
 cases c with
 |false=>exact .inr ⟨rfl,h⟩
 |true=>exact .inl ⟨rfl,h⟩
variable {σ:Type}
def je{k:σ→Option β}{t:(σ→Option β)→Option β}(h:jn k t=some r):∃J,J=k∧t J=some r:=⟨k,rfl,h⟩
def kL{a b:α}(h:some a=some b):a=b:=by injection h
variable {j:Nat}{l:List α}
def iM{b:Int→α→(σ→Option β)→σ→Option β}{k:σ→Option β}{s:σ}(h:ez l j b k s=some r):
  ∃B K,B=b∧K=k∧ez l j B K s=some r:=⟨b,k,rfl,rfl,h⟩
variable {i:Int}
def zG{n:Nat}{b:Int→(σ→Option β)→σ→Option β}{k:Int→σ→Option β}{s:σ}(h:ng n i b k s=some r):
  ∃B K,B=b∧K=k∧ng n i B K s=some r:=⟨b,k,rfl,rfl,h⟩
def nv{f:(σ→Option β)→σ→Option β}{s:σ}(h:jL f s=some r):∃F n,F=f∧iter F n s=some r:=⟨f,_,rfl,h⟩
variable {x:α}
def qd[Inhabited α](h:di l i=some x):(0≤i∧i<l.length)∧el l i=x:=by
 unfold di at h;split at h
 ·rename_i bM;obtain⟨h1,D⟩:=List.getElem?_eq_some_iff.1 h;refine⟨⟨bM,by omega⟩,?_⟩;simp[el,getD_eq_getElem?_getD,h]
 ·cases h
def gT(h:l[j]?=some x):di l (j:Int)=some x:=by
 unfold di;rw[if_pos (by omega)];simpa using h
variable {m:List α}
def Yb(h:lJ l i x=some m):(0≤i∧i<l.length)∧l.set i.toNat x=m:=by
 unfold lJ at h;split at h
 ·exact⟨‹_›,kL h⟩
 ·cases h
def PK{r:List α}(h:jR l r=some m):l.length+r.length≤aO∧l++r=m:=by
 unfold jR at h;split at h
 ·exact⟨‹_›,kL h⟩
 ·cases h
variable {a:Int}
def Yc{b:Int}(h:ug l a b=some m):(0≤a∧a≤b∧b≤l.length)∧(l.take b.toNat).drop a.toNat=m:=by
 unfold ug at h;split at h
 ·exact⟨‹_›,kL h⟩
 ·cases h
structure jS(α:Type) where
 enc:α→List Q
 sz:Nat
 hz:∀r,(enc r).length=sz
 one:∀r,(enc r).all Q.one=true
 cl:∀r,lT (enc r)=true
def ax{α:Type}(e:jS α)(l:List α):List (List Q):=l.map e.enc
def oz(e:jS α)(l:List α):(ax e l).length=l.length:=by simp[ax]
def FQ(e:jS α)(l:List α):∀x∈ax e l,x.length=e.sz:=λx u=>by
 obtain⟨r,_,rfl⟩:=List.mem_map.1 u;exact e.hz r
def adU(e:jS α)(l:List α):(ax e l).flatten.all Q.one=true:=aaV e.enc e.one l
def aI:jS Int:=⟨encI,1,λ_=>rfl,λ_=>rfl,λ_=>rfl⟩
def iu:jS Bool:=⟨λb=>[.bool b],1,λ_=>rfl,λ_=>rfl,λ_=>rfl⟩
def UF{α:Type}(e:jS α):jS (List α):=⟨λl=>[.bf false (ax e l)],1,λ_=>rfl,λ_=>rfl,λ_=>rfl⟩
def wZ(sz:Nat)(xs:List (List Q))(i:Int)(row:List Q):Prop:=(∀e∈xs,e.length=sz)∧0≤i∧i<xs.length∧el xs i=row
def ix(e:jS α)(h:di l i=some x):wZ e.sz (ax e l) i (e.enc x):=by
 refine⟨FQ e l,?_⟩;unfold di at h;split at h
 ·rename_i bM;obtain⟨h1,D⟩:=List.getElem?_eq_some_iff.1 h;exact⟨bM,by rw[oz];omega,by simp[ax,el,getD_eq_getElem?_getD,h]⟩
 ·cases h
def Ap(sz bytes:Nat)(xs bx zs:List (List Q)):Prop:=
 xs++bx=zs∧(∀e∈xs,e.length=sz)∧(∀e∈bx,e.length=sz)∧bx.flatten.all Q.one=true∧(xs.length+bx.length)*bytes≤140737488355328∧xs.length+bx.length≤maxLen
def ap(e:jS α){bytes:Nat}(U:bytes≤256){r:List α}(h:jR l r=some m):Ap e.sz bytes (ax e l) (ax e r) (ax e m):=by
 obtain⟨h1,D⟩:=PK h;unfold aO at h1;refine⟨by rw[←D];simp[ax],FQ e l,FQ e r,adU e r,?_,?_⟩
 ·rw[oz,oz];exact Nat.le_trans (Nat.mul_le_mul_left _ U) (by omega)
 ·rw[oz,oz];unfold maxLen;omega
def FM(sz:Nat)(xs:List (List Q))(i:Int)(off:Nat)(ca:List Q)(zs:List (List Q)):Prop:=
 wZ sz xs i (el xs i)∧zs=xs.set i.toNat (iZ (el xs i) off ca)
def st[Inhabited α](e:jS α){y:α}{off:Nat}{ca:List Q}(u:di l i=some x)(h:lJ l i y=some m)(af:iZ (e.enc x) off ca=e.enc y):FM e.sz (ax e l) i off ca (ax e m):=by
 have h1:=ix e u;obtain⟨D,aj,a1,bU⟩:=h1;refine⟨⟨D,aj,a1,rfl⟩,?_⟩;rw[bU,af,←(Yb h).2];simp[ax,List.map_set]
def td(sz:Nat)(xs:List (List Q))(a b:Int)(zs:List (List Q)):Prop:=(∀e∈xs,e.length=sz)∧(0≤a∧a≤b∧b≤xs.length)∧(xs.take b.toNat).drop a.toNat=zs
def sl(e:jS α){b:Int}(h:ug l a b=some m):td e.sz (ax e l) a b (ax e m):=by
 obtain⟨h1,D⟩:=Yc h;exact⟨FQ e l,by rw[oz];exact h1,by rw[←D];simp[ax,map_drop,map_take]⟩
def c0(k:IntKind)(n:Int):Q:=.int k n
def IW(b:Bool):Q:=.bool b
def FK(P:Program)(E:Nat)(k:IntKind)(bH:List (Q×Q))(n:Int)(a:Q)(b:Bool):Prop:=∃(α:Type) (l:List (Int×α)) (enc:α→Q) (z:α),
 bH=bQ k enc l∧a=enc ((aD l n).getD z)∧b=(aD l n).isSome∧(∀w,∃v,(zeroValue E).run P w=.ok v w∧∀I,bc I (enc z) v)
def CY(k:IntKind)(bH:List (Q×Q))(n:Int)(v:Q)(me:List (Q×Q)):Prop:=∃(α:Type) (l:List (Int×α)) (enc:α→Q) (x:α),bH=bQ k enc l∧v=enc x∧(enc x).closed=true∧me=bQ k enc (bG l n x)
def FL(k:IntKind)(bH:List (Q×Q))(n:Int):Prop:=∃(α:Type) (l:List (Int×α)) (enc:α→Q),bH=bQ k enc l∧n=l.length
variable {enc:α→Q}{k:IntKind}
def lk{P:Program}{E:Nat}(l:List (Int×α))(n:Int)(z:α)(hz:∀w,∃v,(zeroValue E).run P w=.ok v w∧∀I,bc I (enc z) v):FK P E k (bQ k enc l) n (enc ((aD l n).getD z)) (aD l n).isSome:=⟨α,l,enc,z,rfl,rfl,rfl,hz⟩
def va(l:List (Int×α))(n:Int)(x:α)(af:(enc x).closed=true):CY k (bQ k enc l) n (enc x) (bQ k enc (bG l n x)):=⟨α,l,enc,x,rfl,rfl,af,rfl⟩
def lm(l:List (Int×α)):FL k (bQ k enc l) (l.length:Int):=⟨α,l,enc,rfl,rfl⟩
def JC:Nat→List (List Q)→Prop
 |0,xs=>xs.length≤maxLen
 |n+1,xs=>xs.length≤maxLen∧∀e∈xs,∀f bx,Q.bf f bx∈e→JC n bx
def mP(xs:List (List Q)):Prop:=∀n,JC n xs
def mP.len{xs:List (List Q)}(h:mP xs):xs.length≤maxLen:=h 0
def mP.el{e:jS α}(h:mP (ax e l))(u:di l i=some x){k:Nat}{f:Bool}{bx:List (List Q)}(ag:(e.enc x)[k]?=some (.bf f bx)):mP bx:=λn=>by
 refine(h (n+1)).2 (e.enc x) ?_ f bx (List.mem_of_getElem? ag);unfold di at u;split at u
 ·exact List.mem_map.2 ⟨x,List.mem_of_getElem? u,rfl⟩
 ·cases u
def iU{n:Int}(h1 : -9223372036854775808≤n)(D:n≤9223372036854775807):aF n=n:=OO h1 D
def hY{e:jS α}(h:l[j]?=some x)(U:mP (ax e l)):Q.int .i64 (IntKind.wrap .i64 ((j:Int)+1))=.int .i64 ((j+1:Nat):Int):=by
 obtain⟨h1,_⟩:=List.getElem?_eq_some_iff.1 h;have U:=U.len;rw[oz]at U;unfold maxLen at U;rw[show IntKind.wrap .i64 ((j:Int)+1)=(j:Int)+1 from OO (by omega) (by omega)];rfl
def Ah{hi:Int}(bM : -9223372036854775808≤i)(h:i<hi)(U:hi≤9223372036854775807):Q.int .i64 (IntKind.wrap .i64 (i+1))=.int .i64 (i+1):=by
 rw[show IntKind.wrap .i64 (i+1)=i+1 from OO (by omega) (by omega)]
def eG(e:jS α)(l:List α):Q.int .i64 ((ax e l).length:Int)=.int .i64 (l.length:Int):=by rw[oz]
def wL{α:Type}(ee:α→α→Int)(x:α):List α→List α
 |[]=>[x]
 |y::r=>if ee y x<0 then y::wL ee x r else x::y::r
def rS{α:Type}(ee:α→α→Int):List α→List α
 |[]=>[]
 |x::r=>wL ee x (rS ee r)
def wM{α:Type}(ee:α→α→Int):List α→Bool
 |a::b::r=>decide (ee a b<0)&&wM ee (b::r)
 |_=>true
def nG{α:Type}(ee:α→α→Int)(l:List α):Option (List α):=bif wM ee (rS ee l)&&decide (l.length<4611686018427387904)then some (rS ee l)else none
def Ix{α:Type}(ee:α→α→Int)(x:α):∀l:List α,(wL ee x l).Perm (x::l)
 |[]=>.refl _
 |y::r=>by
  simp only[wL];split
  ·exact((Ix ee x r).cons y).trans (.swap x y r)
  ·exact .refl _
def Br{α:Type}(ee:α→α→Int):∀l:List α,(rS ee l).Perm l
 |[]=>.refl _
 |x::r=>(Ix ee x _).trans ((Br ee r).cons x)
def Wu{α:Type}{ee:α→α→Int}(bE:∀a b c,ee a b<0→ee b c<0→ee a c<0):∀{l:List α},wM ee l=true→l.Pairwise λa b=>ee a b<0
 |[],_=>.nil
 |[x],_=>by simp
 |a::b::r,h=>by
  simp only[wM,Bool.and_eq_true,decide_eq_true_eq]at h;have bg:=Wu bE h.2;rw[pairwise_cons];refine⟨λz hz=>?_,bg⟩;rcases mem_cons.1 hz with rfl|hz
  ·exact h.1
  ·exact bE _ _ _ h.1 ((pairwise_cons.1 bg).1 z hz)
def X8{ee:α→α→Int}(bE:∀a b c,ee a b<0→ee b c<0→ee a c<0)(h:nG ee l=some m):m.Perm l∧(m.Pairwise λa b=>ee a b<0)∧l.length<4611686018427387904:=by
 unfold nG at h;cases U:(wM ee (rS ee l)&&decide (l.length<4611686018427387904))with
 |false=>rw[U]at h;cases h
 |true=>
  rw[U]at h;cases h
  simp only[Bool.and_eq_true,decide_eq_true_eq]at U;exact⟨Br ee l,Wu bE U.1,U.2⟩
def WD{α:Type}{ee:α→α→Int}:∀{d m:List α},d.Perm m→(m.Pairwise λa b=>ee a b<0)→(d.Pairwise λa b=>¬ee b a<0)→d=m
 |[],m,aC,_,_=>aC.symm.eq_nil.symm
 |x::d,[],aC,_,_=>by have:=aC.eq_nil;cases this
 |x::d,y::m,aC,h1,D=>by
  rw[pairwise_cons]at h1 D;have u:x=y:=by
   refine Classical.byContradiction λcb=>?_;have jU:x∈m:=by
    have:=aC.mem_iff.1 (mem_cons_self (a:=x) (l:=d));rcases mem_cons.1 this with e|e
    ·exact absurd e cb
    ·exact e
   have a2:y∈d:=by
    have:=aC.mem_iff.2 (mem_cons_self (a:=y) (l:=m));rcases mem_cons.1 this with e|e
    ·exact absurd e.symm cb
    ·exact e
   exact D.1 y a2 (h1.1 x jU)
  subst u;rw[WD (List.Perm.cons_inv aC) h1.2 D.2]
def ht{α:Type}:List (α→Int)→α→α→Int
 |[],_,_=>0
 |k::r,a,b=>if k a<k b then -1 else if k b<k a then 1 else ht r a b
def sy(k:α→Int)(r:List (α→Int))(a b:α):ht (k::r) a b<0↔k a<k b∨k a=k b∧ht r a b<0:=by
 simp only[ht];split
 ·rename_i h;exact⟨λ_=>.inl h,λ_=>by omega⟩
 ·split
  ·rename_i h1 D;exact⟨λh=>by omega,λh=>by omega⟩
  ·rename_i h1 D;have:k a=k b:=by omega
   exact⟨λh=>.inr ⟨this,h⟩,λh=>by rcases h with h|h;exact absurd h h1;exact h.2⟩
def WE{α:Type}:∀(l:List (α→Int)) (a:α),¬ht l a a<0
 |[],_=>by simp[ht]
 |k::r,a=>by rw[sy];intro h;rcases h with h|h;omega;exact WE r a h.2
def zB{α:Type}:∀(l:List (α→Int)) (a b c:α),ht l a b<0→ht l b c<0→ht l a c<0
 |[],_,_,_=>by simp[ht]
 |k::r,a,b,c=>by
  simp only[sy];intro h1 D;rcases h1 with h1|h1<;>rcases D with D|D
  ·exact .inl (by omega)
  ·exact .inl (by omega)
  ·exact .inl (by omega)
  ·exact .inr ⟨by omega,zB r a b c h1.2 D.2⟩
def WM{α:Type}:∀(l:List (α→Int)) (a b c:α),¬ht l a b<0→¬ht l b c<0→¬ht l a c<0
 |[],_,_,_=>by simp[ht]
 |k::r,a,b,c=>by
  simp only[sy];intro h1 D h;rcases h with h|⟨h,aj⟩
  ·by_cases e:k a<k b
   ·exact h1 (.inl e)
   ·exact D (.inl (by omega))
  ·by_cases aJ:k a<k b
   ·exact h1 (.inl aJ)
   by_cases e2:k b<k c
   ·exact D (.inl e2)
   have dm:k a=k b:=by omega
   have gb:k b=k c:=by omega
   exact WM r a b c (λq=>h1 (.inr ⟨dm,q⟩)) (λq=>D (.inr ⟨gb,q⟩)) aj
end
section
inductive O2 where
 |int (k:IntKind)
 |bool
 |str
 |slice (E sz bytes:Nat) (zs:dZ)
 |map (K E:Nat) (k:IntKind)
 |struct (zs:dZ) (fG:List (Nat×Nat)) (qH:qS)
 |pq
structure e6 where
 sz:Nat
 dG:Bool
 zs:Option (List Value)
 kd:O2
def mG(P:Program)(T:Nat):O2→Prop
 |.int k=>P.underlying T=some (.int k)
 |.bool=>P.underlying T=some .bool
 |.str=>P.underlying T=some .string
 |.slice E sz bytes zs=>kV P T E sz∧kR P T E sz bytes∧ml P T E sz zs
 |.map K E k=>kF P T K E k
 |.struct zs fG qH=>kE P T zs fG∧(∀f off sz,fG[f]?=some (off,sz)→gM P T f off)∧∀f off sz dG,fG[f]?=some (off,sz)→qH[f]?=some dG→gH P T f off sz dG
 |.pq=>True
structure fk(P:Program)(T:Nat)(i:e6):Prop where
 ty:dL P T i.sz i.dG
 aof:∀zs,i.zs=some zs→∀w,∃z,(zeroValue T).run P w=.ok z w∧z.cells=zs.toArray
 kd:mG P T i.kd
abbrev g4:=List (Nat×e6)
def g4.get:g4→Nat→Option e6
 |[],_=>none
 |(k,v)::r,n=>bif Nat.beq k n then some v else g4.get r n
def jF(P:Program):g4→Prop
 |[]=>True
 |(k,v)::r=>fk P k v∧jF P r
def jF.get{P:Program}:∀{bP:g4} {T:Nat} {i:e6},jF P bP→bP.get T=some i→fk P T i
 |[],_,_,_,h=>by simp[g4.get]at h
 |(k,v)::r,T,i,cA,h=>by
  simp only[g4.get]at h;cases hk:Nat.beq k T<;>rw[hk]at h
  ·exact jF.get cA.2 h
  ·simp only[cond_true,Option.some.injEq]at h;have:k=T:=by simpa using hk
   subst this h;exact cA.1
structure jT(P:Program)(bP:g4):Prop where
 mix:P.follows .mixedOrders=true
 tys:jF P bP
structure c8(P:Program)(f:FuncId):Prop where
 h:∀(args:iY) (w:World),(callFunc f args).run P w=.ok (.enter f args) w
def Kf:cc→Prop
 |.slice _ _ xs _ _=>∀e∈xs,qY e=true
 |.map _ _ bH=>∀p∈bH,p.1.iI=true∧p.2.iI=true
 |_=>False
def x8:Y→Prop
 |[]=>True
 |p::r=>Kf p.2∧x8 r
def F6(a:Q):Prop:=∀(I:bs) (β:Nat→Value) v,au I β a v→∃p n c,v=.slice (some p) n c
def Y8{f:Bool}{xs:List (List Q)}(h:xs≠[]):F6 (.bf f xs):=λI β v aa=>by
 simp only[au,bc]at aa;obtain⟨a,c,rfl,_,_,_,bU|⟨b,o,rfl,_⟩⟩:=aa
 ·exact absurd bU h
 ·exact⟨_,_,_,rfl⟩
def Za:F6 .ko:=λI β v aa=>by
 simp only[au,bc]at aa;obtain⟨a,c,rfl,_⟩:=aa;exact⟨_,_,_,rfl⟩
abbrev cZ:=List Q×Y
inductive c7 where
 |y (R:dg) (bN:Q)
 |v (d:Nat) (aX:cc) (bN:Q)
 |e (M news:dg) (bN:Q) (az:Y)
def fP(G:ch)(o:Oper)(env:ah)(σ:Y):c7→Prop
 |.y R bN=>Yields G o env.ev σ [] R bN
 |.v d aX bN=>G.ids.contains d=false∧Yields G o env.ev ((d,aX)::σ) [d] [d] bN
 |.e M news bN az=>h5 G o env.ev σ M news (λa s=>a=bN∧s=az)∧news.all (λd=>!G.ids.contains d)=true
inductive Hint(P:Program):Type where
 |Dx
 |al (d:Nat)
 |to (h:Hint P) (a b:Q) (e:a=b)
 |ix (sz:Nat) (xs:List (List Q)) (i:Int) (row:List Q) (b4:wZ sz xs i row)
 |lo (d sz:Nat) (xs:List (List Q)) (i:Int) (off:Nat) (row:List Q) (b4:wZ sz xs i row)
 |so (d sz:Nat) (xs:List (List Q)) (i:Int) (off:Nat) (ca:List Q) (zs:List (List Q)) (b4:FM sz xs i off ca zs) (k:Nat) (hk:(k:Int)≤i)
 |rf (f:FuncId) (uE dx:List Q) (r:Q) (b4:dT P f [] (dx++uE) r) (af:c8 P f)
 |ro (wF:Nat) (f:FuncId) (σs:Y) (dx:List Q) (r:Q) (b4:dT P f σs dx r) (af:c8 P f)
 |le (cS:dg) (f:FuncId) (dx:List Q) (r:Q) (b4:dT P f [] dx r) (af:c8 P f)
 |mA (news:dg) (f:FuncId) (dk:Y) (dx:List Q) (r:Q) (σ2:Y) (b4:eP P f dk dx (λa az=>a=r∧az=σ2)) (af:c8 P f)
 |dl (cS news:dg) (f:FuncId) (dx:List Q) (r:Q) (σ2:Y) (b4:eP P f [] dx (λa az=>a=r∧az=σ2)) (af:c8 P f) (AQ:x8 σ2)
 |gs (AP:Bool) (ex:cZ) (f:dg→Op→ah→Y→Option (c7×cZ)) (b4:∀(o:Oper) (N:Nat) (ids:dg) (env:ah) (σ:Y) (s:c7) (aX:cZ),f ids o.op env σ=some (s,aX)→aX=ex→fP ⟨P,N,ids⟩ o env σ s)
 |ap (d2 sz bytes:Nat) (xs bx zs:List (List Q)) (b4:Ap sz bytes xs bx zs)
 |ws (d2 sz:Nat) (xs:List (List Q)) (a:Int) (zs:List (List Q)) (b4:td sz xs a xs.length zs)
 |sl (sz:Nat) (xs:List (List Q)) (a b:Int) (zs:List (List Q)) (b4:td sz xs a b zs)
 |qr (n:Int) (b4:n≠0)
 |sh (n:Int) (b4:0≤n)
 |is (s:ByteArray) (n:Int) (b:UInt8) (b4:0≤n∧s[n.toNat]?=some b)
 |lk (E:Nat) (k:IntKind) (bH:List (Q×Q)) (n:Int) (a:Q) (b:Bool) (b4:FK P E k bH n a b)
 |va (k:IntKind) (bH:List (Q×Q)) (n:Int) (v:Q) (me:List (Q×Q)) (b4:CY k bH n v me)
 |lm (k:IntKind) (bH:List (Q×Q)) (n:Int) (b4:FL k bH n)
 |Ni (neg:Bool) (T:Nat) (a b:Q) (r:Bool) (b4:∀(x y:Operand) w,(do eqGuard (bif neg then .neq else .eql) T x y (valOf a) (valOf b);binOp (bif neg then .neq else .eql) T (valOf a) (valOf b):Sem Value).run P w=.ok (.bool r) w)
 |E7 (neg:Bool) (a:Q) (b4:F6 a)
 |s3 (sz:Nat) (xs:List (List Q)) (a b:Int) (zs:List (List Q)) (b4:td sz xs a b zs)
 |pu (T aV:Nat) (a r:Q) (b4:∀(o:Oper) (N:Nat) (ids:dg) (ev:Operand→Q) (σ:Y) (x:Operand),o.op=.convert T aV x→ev x=a→Yields ⟨P,N,ids⟩ o ev σ [] [] r)
 |pb (op:BinOp) (T:Nat) (a b r:Q) (b4:∀(o:Oper) (N:Nat) (ids:dg) (ev:Operand→Q) (σ:Y) (x y:Operand) (aV:Nat),o.op=.binOp op T x y aV→ev x=a→ev y=b→Yields ⟨P,N,ids⟩ o ev σ [] [] r)
def Hint.exp{P:Program}:Hint P→cZ
 |.Dx|.al _=>([],[])
 |.to h a _ _=>(a::h.exp.1,h.exp.2)
 |.ix _ xs i _ _=>([.bf false xs,.int .i64 i],[])
 |.lo d sz xs i off _ _=>([.bf false xs,.ptr d (i.toNat*sz+off)],[])
 |.so d sz xs i off ca _ _ _ _=>([.bf false xs,.ptr d (i.toNat*sz+off),.agg ca],[])
 |.rf f uE dx _ _ _=>(.fn f uE::dx,[])
 |.ro _ f σs dx _ _ _=>(.fn f []::dx,σs)
 |.le _ f dx _ _ _=>(.fn f []::dx,[])
 |.mA _ f dk dx _ _ _ _=>(.fn f []::dx,dk)
 |.dl _ _ f dx _ _ _ _ _=>(.fn f []::dx,[])
 |.gs _ ex _ _=>ex
 |.ap _ _ _ xs bx _ _=>([.bf false xs,.bf false bx],[])
 |.ws _ _ xs a _ _=>([.bf false xs,.int .i64 a],[])
 |.sl _ xs a b _ _=>([.bf false xs,.int .i64 a,.int .i64 b],[])
 |.qr n _|.sh n _=>([.int .i64 n],[])
 |.is s n _ _=>([.str s,.int .i64 n],[])
 |.lk _ _ bH n _ _ _=>([.int .i64 n],[(0,.map 0 0 bH)])
 |.va _ bH n v _ _=>([.int .i64 n,v],[(0,.map 0 0 bH)])
 |.lm _ bH _ _=>([],[(0,.map 0 0 bH)])
 |.Ni _ _ a b _ _=>([a,b],[])
 |.E7 _ a _=>([a],[])
 |.s3 _ xs a b _ _=>([.bf false xs,.int .i64 a,.int .i64 b,.int .i64 b],[])
 |.pu _ _ a _ _=>([a],[])
 |.pb _ _ a b _ _=>([a,b],[])
mutual
def ua:Q→Q
 |.bf true xs=>.bf false xs
 |.c4=>.bf false []
 |.agg cs=>.agg (N8 cs)
 |a=>a
def N8:List Q→List Q
 |[]=>[]
 |x::r=>ua x::N8 r
end
mutual
def M1{σ:Y}:∀a:Q,iw σ a (ua a)
 |.bf true xs=>.full xs
 |.c4=>.nil false
 |.agg cs=>.agg (Wv cs)
 |.bf false _|.e9|.undef|.int _ _|.bool _|.str _|.fO _|.nI|.ko|.own _|.ptr _ _|.dr _|.eU _ _|.cI _|.fn _ _|.fR _ _|.dw _|.arr _=>.refl _
def Wv{σ:Y}:∀l:List Q,jE σ l (N8 l)
 |[]=>.nil
 |x::r=>.cons (M1 x) (Wv r)
end
variable {G:ch}{o:Oper}{σ:Y}
def Yields.off{ev:Operand→Q}{dI R:dg}{bN:Q}(h:Yields G o (λx=>ua (ev x)) σ dI R bN):Yields G o ev σ dI R bN:=
 λaz cx I β w aZ cf an hm hop=>h az cx I β w aZ cf an hm λx u=>(M1 (ev x)).rep an _ (hop x u)
def h5.off{ev:Operand→Q}{M news:dg}{Φ:Q→Y→Prop}(h:h5 G o (λx=>ua (ev x)) σ M news Φ):h5 G o ev σ M news Φ:=
 λcx I β w aZ an hop=>h cx I β w aZ an λx u=>(M1 (ev x)).rep an _ (hop x u)
def Dk:List (Nat×Q)→List (Nat×Q)
 |[]=>[]
 |p::r=>(p.1,ua p.2)::Dk r
def N9{ev:Operand→Q}:∀l:List (Nat×Operand),Dk (l.map λp=>(p.1,ev p.2))=l.map λp=>(p.1,ua (ev p.2))
 |[]=>rfl
 |p::r=>by simp only[map_cons,Dk,N9 r]
mutual
def jG(kp:dg)(σ:Y):Q→Option Q
 |.own d=>bif kp.contains d then some (.own d)else match σ.get d with
  |some (.slice _ _ xs _ true)=>some (.bf false xs)
  |some (.win _ _ xs)=>some (.bf false xs)
  |_=>none
 |.dr d=>bif kp.contains d then some (.dr d)else match σ.get d with
  |some (.kf _ _ bH)=>some (.dw bH)
  |_=>some (.dr d)
 |.c4=>some (.bf false [])
 |.ko=>some (.bf false [])
 |.bf true xs=>some (.bf false xs)
 |.agg cs=>match ue kp σ cs with|none=>none|some l=>some (.agg l)
 |.cI cs=>match ue kp σ cs with|none=>none|some l=>some (.cI l)
 |.fn f cs=>match ue kp σ cs with|none=>none|some l=>some (.fn f l)
 |a=>some a
def ue(kp:dg)(σ:Y):List Q→Option (List Q)
 |[]=>some []
 |x::r=>match jG kp σ x with
  |none=>none
  |some a=>match ue kp σ r with
   |none=>none
   |some l=>some (a::l)
end
mutual
def tX{kp:dg}{σ:Y}:∀{a b:Q},jG kp σ a=some b→iw σ a b
 |.own d,b,h=>by
  simp only[jG]at h;cases hk:kp.contains d with
  |true=>rw[hk]at h;simp only[cond_true,Option.some.injEq]at h;subst h;exact .refl _
  |false=>
   rw[hk]at h;simp only[cond_false]at h;split at h
   ·rename_i Z;simp only[Option.some.injEq]at h;subst h;exact .own Z
   ·rename_i Z;simp only[Option.some.injEq]at h;subst h;exact .win Z
   ·cases h
 |.dr d,b,h=>by
  simp only[jG]at h;cases hk:kp.contains d with
  |true=>rw[hk]at h;simp only[cond_true,Option.some.injEq]at h;subst h;exact .refl _
  |false=>
   rw[hk]at h;simp only[cond_false]at h;split at h
   ·rename_i Z;simp only[Option.some.injEq]at h;subst h;exact .kf Z
   ·cases h;exact .refl _
 |.dw _,b,h=>by simp only[jG,Option.some.injEq]at h;subst h;exact .refl _
 |.arr _,b,h=>by simp only[jG,Option.some.injEq]at h;subst h;exact .refl _
 |.c4,b,h=>by simp only[jG,Option.some.injEq]at h;subst h;exact .nil false
 |.ko,b,h=>by simp only[jG,Option.some.injEq]at h;subst h;exact .ko
 |.bf true xs,b,h=>by simp only[jG,Option.some.injEq]at h;subst h;exact .full xs
 |.agg cs,b,h=>by
  simp only[jG]at h;split at h
  ·cases h
  ·rename_i l aH;simp only[Option.some.injEq]at h;subst h;exact .agg (zH aH)
 |.cI cs,b,h=>by
  simp only[jG]at h;split at h
  ·cases h
  ·rename_i l aH;simp only[Option.some.injEq]at h;subst h;exact .cI (zH aH)
 |.fn f cs,b,h=>by
  simp only[jG]at h;split at h
  ·cases h
  ·rename_i l aH;simp only[Option.some.injEq]at h;subst h;exact .fn (zH aH)
 |.bf false _,b,h|.e9,b,h|.undef,b,h|.int _ _,b,h|.bool _,b,h|.str _,b,h|.fO _,b,h|.nI,b,h|.ptr _ _,b,h|.eU _ _,b,h|.fR _ _,b,h=>by
  simp only[jG,Option.some.injEq]at h;subst h;exact .refl _
def zH{kp:dg}{σ:Y}:∀{a b:List Q},ue kp σ a=some b→jE σ a b
 |[],b,h=>by simp only[ue,Option.some.injEq]at h;subst h;exact .nil
 |x::r,b,h=>by
  simp only[ue]at h;split at h
  ·cases h
  ·rename_i a ay;split at h
   ·cases h
   ·rename_i l aH;simp only[Option.some.injEq]at h;subst h
    exact .cons (tX ay) (zH aH)
end
def Y.at(σ:Y):dg→Option Y
 |[]=>some []
 |d::r=>match σ.get d with
  |none=>none
  |some o=>match Y.at σ r with
   |none=>none
   |some l=>some ((d,o)::l)
def asR{σ:Y}:∀{cS:dg} {l:Y},σ.at cS=some l→r5 σ l∧l.ids=cS
 |[],l,h=>by simp only[Y.at,Option.some.injEq]at h;subst h;exact⟨trivial,rfl⟩
 |d::r,l,h=>by
  simp only[Y.at]at h;split at h
  ·cases h
  ·rename_i o ai;split at h
   ·cases h
   ·rename_i m hm;simp only[Option.some.injEq]at h;subst h
    obtain⟨h1,D⟩:=asR hm;exact⟨⟨ai,h1⟩,by simp only[Y.ids,map_cons]at D ⊢;rw[D]⟩
def sS(f:Q→Option Q):List Q→Option (List Q)
 |[]=>some []
 |x::r=>match f x with
  |none=>none
  |some a=>match sS f r with
   |none=>none
   |some l=>some (a::l)
def sU:Nat→Y→Q→Option Q
 |0,_,_=>none
 |n+1,σ,a=>match a with
  |.own d=>(match σ.get d with|some (.slice _ _ xs _ _)=>some (.bf false xs)|some (.win _ _ xs)=>some (.bf false xs)|_=>none)
  |.ptr d p=>(match σ.get d with
   |some (.cells _ cs)=>(match sS (sU n σ) (cs.drop p)with|none=>none|some l=>some (.fO l))
   |_=>none)
  |.c4=>some (.bf false [])
  |.bf true xs=>some (.bf false xs)
  |.agg cs=>(match sS (sU n σ) cs with|none=>none|some l=>some (.agg l))
  |.cI cs=>(match sS (sU n σ) cs with|none=>none|some l=>some (.cI l))
  |.fn f cs=>(match sS (sU n σ) cs with|none=>none|some l=>some (.fn f l))
  |.dr d=>(match σ.get d with|some (.map _ _ bH)=>some (.dw bH)|some (.kf _ _ bH)=>some (.dw bH)|some (.gz _ _ _ _ bH)=>some (.dw bH)|_=>none)
  |.fR _ _=>none
  |.ko=>some (.bf false [])
  |a=>some a
def zJ{f:Q→Option Q}{I J:bs}{β:Nat→Value}(bm:∀a b,f a=some b→∀v,au I β a v→bc J b v):∀{l m:List Q},sS f l=some m→∀vs,bW I β l vs→cV J m vs
 |[],m,h,vs,aB=>by simp only[sS,Option.some.injEq]at h;subst h;exact aB
 |x::r,m,h,vs,aB=>by
  simp only[sS]at h;split at h
  ·cases h
  ·rename_i a ay;split at h
   ·cases h
   ·rename_i l aH;simp only[Option.some.injEq]at h;subst h
    simp only[bW]at aB;obtain⟨aA,bI,rfl,h1,D⟩:=aB;exact⟨aA,bI,rfl,bm x a ay aA h1,zJ bm aH bI D⟩
def Oa{G:ch}{cx:eW}{I:bs}{β:Nat→Value}{σ:Y}{w:World}(an:bY G cx I β σ w):∀(n:Nat) (a b:Q),sU n σ a=some b→∀v,au I β a v→bc (h2 w) b v
 |0,a,b,h,_,_=>by cases h
 |n+1,a,b,h,v,aB=>by
  have hle:cn I (h2 w):=an.JT;have bg:=Oa an n;cases a with
  |own d=>
   simp only[sU]at h;split at h
   ·rename_i T sz xs k c5 Z;cases h;simp only[au]at aB;obtain⟨rfl,X⟩:=aB;have cC:=an.cw d _ Z;simp only[aY]at cC;simp only[bc];rcases cC with q|⟨q,rfl,_⟩|⟨b,aO,arr,ak,ar,aM,aK,be,bJ,b8,_⟩
    ·rw[q]at X;simp[iD]at X
    ·exact⟨none,0,q,by simp,by simp[maxLen],by simp,.inl rfl⟩
    ·refine⟨_,aO,ak,ar,aM,by simp,.inr ⟨b,0,rfl,?_⟩⟩;refine zr xs 0 _ (nT hle _ _ bJ) λj v aa=>?_;rw[Nat.zero_add];rw[getElem?_take]at aa;split at aa
     ·simp only[h2,World.cell?,aK];simpa using aa
     ·cases aa
   ·rename_i T sz xs Z;cases h;exact jV hle _ _ (by simpa only[au]using an.win Z aB)
   ·cases h
  |ptr d p=>
   simp only[sU]at h;split at h
   ·rename_i T cs Z;split at h
    ·cases h
    ·rename_i l aH;cases h;simp only[au]at aB;obtain⟨eM,U,rfl⟩:=aB;obtain⟨arr,ak,ar,aM,_⟩:=bY.box an Z U;simp only[bc];refine⟨eM,p,rfl,?_⟩;have:=zJ (J:=h2 w) bg aH _ (Bz p _ _ aM);refine Ih l p _ this λj v aa=>?_;simp only[h2,World.cell?,ar];simpa using aa
   ·cases h
  |c4=>cases h;simp only[au,bc]at aB ⊢;exact⟨none,0,aB,by simp,by simp[maxLen],by simp,by simp⟩
  |bf f xs=>
   have h1:bc (h2 w) (.bf f xs) v:=jV hle _ _ (by simpa only[au]using aB);cases f with
   |false=>cases h;exact h1
   |true=>
    cases h;simp only[bc]at h1 ⊢;obtain⟨a,c,D,aj,a1,_,bU⟩:=h1;exact⟨a,c,D,aj,a1,by simp,bU⟩
  |agg cs=>
   simp only[sU]at h;split at h
   ·cases h
   ·rename_i l aH;cases h
    simp only[au]at aB;obtain⟨vs,rfl,aB⟩:=aB;simp only[bc];exact⟨vs,rfl,zJ bg aH _ aB⟩
  |cI cs=>
   simp only[sU]at h;split at h
   ·cases h
   ·rename_i l aH;cases h
    simp only[au]at aB;obtain⟨vs,rfl,aB⟩:=aB;simp only[bc];exact⟨vs,rfl,zJ bg aH _ aB⟩
  |fn f cs=>
   simp only[sU]at h;split at h
   ·cases h
   ·rename_i l aH;cases h
    simp only[au]at aB;obtain⟨vs,rfl,aB⟩:=aB;simp only[bc];exact⟨vs,rfl,zJ bg aH _ aB⟩
  |dr d=>
   have own:∀{r:Nat} {es:iT} {clock:Nat} {bH:List (Q×Q)},β d=.map (some r)→w.heap[r]?=some (.map es clock)→gq I bH es.toList→jZ es clock→au I β (.dr d) v→bc (h2 w) (.dw bH) v:=by
    intro r es clock bH h1 D aj a1 bU;simp only[au]at bU;obtain⟨rfl,_⟩:=bU;simp only[bc];exact⟨r,es,clock,h1,by simp only[h2,D],mS hle _ _ aj,a1⟩
   have Bj:mJ (β d)=true:=by simp only[au]at aB;obtain⟨rfl,q⟩:=aB;exact q
   simp only[sU]at h;split at h
   ·rename_i K E bH Z;cases h;have cC:=an.cw d _ Z;simp only[aY]at cC;rcases cC with q|⟨r,es,clock,ak,ar,aM,_,_,bJ⟩
    ·rw[q]at Bj;simp[mJ]at Bj
    ·exact own ak ar aM bJ aB
   ·rename_i K E bH Z;cases h;have cC:=an.cw d _ Z;simp only[aY]at cC;rcases cC with q|⟨r,es,clock,ak,ar,aM,_,bJ⟩
    ·rw[q]at Bj;simp[mJ]at Bj
    ·obtain⟨hO,mR,a1,bU⟩:=an.hM r _ ar;obtain⟨rfl,rfl⟩:=EL bU;exact own ak a1 aM bJ aB
   ·rename_i es clock K E bH Z;cases h;have cC:=an.cw d _ Z;simp only[aY]at cC;rcases cC with q|⟨r,ak,ar,aM,_,_,bJ⟩
    ·rw[q]at Bj;simp[mJ]at Bj
    ·exact own ak ar aM bJ aB
   ·cases h
  |dw bH=>cases h;exact jV hle _ _ (by simpa only[au]using aB)
  |arr xs=>cases h;exact jV hle _ _ (by simpa only[au]using aB)
  |fR k d=>cases h
  |ko=>
   cases h;simp only[au,bc]at aB ⊢;obtain⟨a,c,aB,af⟩:=aB;exact⟨some a,c,aB,by simp,af,by simp,by simp⟩
  |eU f cs=>cases h;exact jV hle _ _ (by simpa only[au]using aB)
  |e9=>cases h;simp[bc]
  |undef=>cases h;exact jV hle _ _ (by simpa only[au]using aB)
  |int k n=>cases h;exact jV hle _ _ (by simpa only[au]using aB)
  |bool b=>cases h;exact jV hle _ _ (by simpa only[au]using aB)
  |str s=>cases h;exact jV hle _ _ (by simpa only[au]using aB)
  |fO cs=>cases h;exact jV hle _ _ (by simpa only[au]using aB)
  |nI=>cases h;exact jV hle _ _ (by simpa only[au]using aB)
def Cy(n:Nat)(σ:Y)(a:Q):Option Q:=match sU n σ a with
 |some (.fn f l)=>some (.eU f l)
 |x=>x
variable {I:bs}{β:Nat→Value}
def Qm{cx:eW}{w:World}(an:bY G cx I β σ w)(n:Nat)(a b:Q)(h:Cy n σ a=some b)(v:Value)(aB:au I β a v):bc (h2 w) b v:=by
 unfold Cy at h;split at h
 ·rename_i f l he;cases h;have:=Oa an n a _ he v aB;simpa only[bc]using this
 ·exact Oa an n a _ h v aB
def cV.Kv:∀{l:List Q} {vs:dZ},cV I l vs→bW I β l vs:=λh=>cV.rep β _ _ h
variable {args:Array Operand}{dx ps:List Q}{env:ah}{f:FuncId}{gO:Operand}{k:Array TypeId}{r:Q}{σs:Y}
def auo{aO:List Q}(n:Nat)(h:o.op=.call ⟨.value gO,args,k⟩)(bm:env.ev gO=.fn f aO)
    (o7:∀(args:iY) (w:World),(callFunc f args).run G.P w=.ok (.enter f args) w) (cM:dT G.P f [] dx r) (aC:env.pn args.toList=some ps) (ay:sS (Cy n σs) (ps++aO)=some dx) (X:r5 σ σs)
    (aB:r.iI=true):Yields G o env.ev σ [] σs.ids r:=by
  intro az cx I β w aZ cf an _ hop;have jh:=hop gO (by simp[h,Op.operands,Call.operands]);rw[bm]at jh;simp only[au]at jh;obtain⟨vs,jh,n4⟩:=jh;rw[BM h jh o7]
  have ki:∀d o,σs.get d=some o→az.get d=some o:=λd o Z=>by
    obtain⟨p,cQ,dM,eH⟩:=sI σs d o Z;rw[cf d (by rw[←dM];exact List.mem_map.2 ⟨p,cQ,rfl⟩),←dM,←eH];exact X.mem p cQ
  have xC:=an.sub ki;have lX:=rF _ _ _ _ (xO env.ev aZ args.toList λx u=>hop x (by simp only[h,Op.operands,Call.operands];simp;right;simpa using u)) n4;rw[asX aC]at lX;have ud:=zJ (J:=h2 w) (Qm xC n) ay _ lX
  have fB:bY ⟨G.P,0,[]⟩ (nY (h2 w) β [] w) (h2 w) β [] w:=
    {good:=BE,hM:=Bs,jg:=cn.refl _,iV:=λ_ _ _ _=>rfl,frame:=λ_ _ _=>rfl,size:=Nat.le_refl _,tape:=rfl,os:=rfl,output:=rfl,drawn:=Nat.le_refl _,
     cw:=λd o Z=>by simp[Y.get]at Z,dA:=λd dh Z=>by simp[Y.get]at Z,keep:=λd Z=>by simp at Z}
  refine Calls.mono (cM _ w (h2 w) β _ fB ud.Kv) ?_;rintro e w' ⟨v,he,r',σ2,aU,β',⟨qj,jI⟩,kD,e1⟩;subst qj jI;have mZ:bY G cx I β az w':=an.stay (λb U=>e1.frame b U (by simp[nY,u2,Y.ids])) e1.size e1.tape e1.os e1.output e1.drawn;exact⟨v,he,I,β,au.iI r' v aB kD,mZ,cn.refl I,λ_ _=>rfl⟩
mutual
def Q.q7:Q→Bool
 |.int _ _=>true
 |.bool _=>true
 |.str _=>true
 |.undef=>true
 |.own _=>true
 |.dr _=>true
 |.cI cs=>Fy cs
 |.agg cs=>Fy cs
 |_=>false
def Fy:List Q→Bool
 |[]=>true
 |x::r=>x.q7&&Fy r
end
mutual
def au.q7{I aU:bs}{β:Nat→Value}:∀(a:Q) (v:Value),a.q7=true→au I β a v→au aU β a v
 |.int _ _,v,_,h=>by simpa only[au,bc]using h
 |.bool _,v,_,h=>by simpa only[au,bc]using h
 |.str _,v,_,h=>by simpa only[au,bc]using h
 |.undef,v,_,h=>by simpa only[au,bc]using h
 |.own d,v,_,h=>by simpa only[au]using h
 |.dr d,v,_,h=>by simpa only[au]using h
 |.cI cs,v,X,h=>by
  simp only[au,Q.q7]at h X ⊢;obtain⟨vs,h1,D⟩:=h;exact⟨vs,h1,bW.q7 cs _ X D⟩
 |.agg cs,v,X,h=>by
  simp only[au,Q.q7]at h X ⊢;obtain⟨vs,h1,D⟩:=h;exact⟨vs,h1,bW.q7 cs _ X D⟩
 |.e9,_,X,_|.bf _ _,_,X,_|.fO _,_,X,_|.fn _ _,_,X,_|.c4,_,X,_|.nI,_,X,_|.ptr _ _,_,X,_|.eU _ _,_,X,_|.ko,_,X,_|.fR _ _,_,X,_=>by simp[Q.q7]at X
def bW.q7{I aU:bs}{β:Nat→Value}:∀(a:List Q) (v:dZ),Fy a=true→bW I β a v→bW aU β a v
 |[],v,_,h=>h
 |x::r,v,X,h=>by
  simp only[bW,Fy,Bool.and_eq_true]at h X ⊢;obtain⟨aA,bI,h1,D,aj⟩:=h;exact⟨aA,bI,h1,au.q7 x aA X.1 D,bW.q7 r bI X.2 aj⟩
end
def x8.get:∀{σ:Y} {d:Nat} {o:cc},x8 σ→σ.get d=some o→Kf o
 |[],_,_,_,h=>by simp[Y.get]at h
 |(x,v)::r,d,o,bm,h=>by
  obtain⟨p,cQ,_,eH⟩:=sI ((x,v)::r) d o h;have:∀(σ:Y),x8 σ→∀p∈σ,Kf p.2:=by
   intro σ;induction σ with
   |nil=>intro _ p aC;simp at aC
   |cons q r bg=>
    intro bm p aC;rcases mem_cons.1 aC with rfl|aC
    ·exact bm.1
    ·exact bg bm.2 p aC
  rw[←eH];exact this _ bm p cQ
def Zb{k:IntKind}{dS:IntKind}(l:List (Int×Int)):∀p∈l.map (λ(q:Int×Int)=>(Q.int k q.1,Q.int dS q.2)),p.1.iI=true∧p.2.iI=true:=λp aC=>by
 obtain⟨x,_,rfl⟩:=List.mem_map.1 aC;exact⟨rfl,rfl⟩
def WB:∀{a b:List Q},qY a=true→qY b=true→qY (a++b)=true
 |[],_,_,h=>h
 |x::r,b,ay,U=>by
  simp only[cons_append,qY,Bool.and_eq_true]at ay ⊢;exact⟨ay.1,WB ay.2 U⟩
def Ww:∀{xs:List (List Q)},(∀e∈xs,qY e=true)→qY xs.flatten=true
 |[],_=>rfl
 |x::r,h=>by
  rw[flatten_cons];exact WB (h x (by simp)) (Ww λe he=>h e (by simp[he]))
mutual
def bc.iI{I aU:bs}:∀(a:Q) (v:Value),a.iI=true→bc I a v→bc aU a v
 |.int _ _,v,_,h=>by simpa only[bc]using h
 |.bool _,v,_,h=>by simpa only[bc]using h
 |.str _,v,_,h=>by simpa only[bc]using h
 |.undef,v,_,h=>by simpa only[bc]using h
 |.cI cs,v,X,h=>by
  simp only[bc,Q.iI]at h X ⊢;obtain⟨vs,h1,D⟩:=h;exact⟨vs,h1,cV.iI cs _ X D⟩
 |.agg cs,v,X,h=>by
  simp only[bc,Q.iI]at h X ⊢;obtain⟨vs,h1,D⟩:=h;exact⟨vs,h1,cV.iI cs _ X D⟩
 |.e9,_,X,_|.bf _ _,_,X,_|.fO _,_,X,_|.fn _ _,_,X,_|.c4,_,X,_|.nI,_,X,_|.own _,_,X,_|.ptr _ _,_,X,_|.dr _,_,X,_|.eU _ _,_,X,_|.ko,_,X,_|.fR _ _,_,X,_=>by simp[Q.iI]at X
def cV.iI{I aU:bs}:∀(a:List Q) (v:dZ),qY a=true→cV I a v→cV aU a v
 |[],v,_,h=>h
 |x::r,v,X,h=>by
  simp only[cV,qY,Bool.and_eq_true]at h X ⊢;obtain⟨aA,bI,h1,D,aj⟩:=h;exact⟨aA,bI,h1,bc.iI x aA X.1 D,cV.iI r bI X.2 aj⟩
end
def gq.iI{I aU:bs}:∀(l:List (Q×Q)) (es:nM),(∀p∈l,p.1.iI=true∧p.2.iI=true)→gq I l es→gq aU l es
 |[],es,_,h=>h
 |(k,v)::r,es,X,h=>by
  simp only[gq]at h ⊢;obtain⟨e,bI,h1,D,aj,a1⟩:=h;exact⟨e,bI,h1,bc.iI k _ (X (k,v) (by simp)).1 D,bc.iI v _ (X (k,v) (by simp)).2 aj,gq.iI r bI (λp aC=>X p (by simp[aC])) a1⟩
def NN:∀σ:Y,Y.minus [] σ=σ
 |[]=>rfl
 |(d,o)::r=>by simp only[Y.minus,contains_nil,cond_false,NN r]
def au6{aO:List Q}{σ2:Y}(n:Nat)(news:dg)(h:o.op=.call ⟨.value gO,args,k⟩)(bm:env.ev gO=.fn f aO)
    (o7:∀(args:iY) (w:World),(callFunc f args).run G.P w=.ok (.enter f args) w) (cM:eP G.P f [] dx (λa az=>a=r∧az=σ2)) (aC:env.pn args.toList=some ps) (ay:sS (Cy n σs) (ps++aO)=some dx) (X:r5 σ σs)
    (aR:news.all (λd=>!G.ids.contains d&&(σ.get d).isNone)=true) (hX:σ.clean news.contains=true) (aB:r.q7=true) (jI:r.refs (λd=>!news.contains d)=false) (D:σ2.clean (λd=>!news.contains d)=true) (A5:x8 σ2) :
    h5 G o env.ev σ news news (λa az=>a=r∧az=σ2++σ):=by
  intro cx I β w aZ an hop;have jh:=hop gO (by simp[h,Op.operands,Call.operands]);rw[bm]at jh;simp only[au]at jh;obtain⟨vs,jh,n4⟩:=jh;rw[BM h jh o7]
  have xC:=an.sub (σ2:=σs) λd o Z=>by
    obtain⟨p,cQ,dM,eH⟩:=sI σs d o Z;rw[←dM,←eH];exact X.mem p cQ
  have lX:=rF _ _ _ _ (xO env.ev aZ args.toList λx u=>hop x (by simp only[h,Op.operands,Call.operands];simp;right;simpa using u)) n4;rw[asX aC]at lX;have ud:=zJ (J:=h2 w) (Qm xC n) ay _ lX
  have fB:bY ⟨G.P,0,[]⟩ (nY (h2 w) β [] w) (h2 w) β [] w:=
    {good:=BE,hM:=Bs,jg:=cn.refl _,iV:=λ_ _ _ _=>rfl,frame:=λ_ _ _=>rfl,size:=Nat.le_refl _,tape:=rfl,os:=rfl,output:=rfl,drawn:=Nat.le_refl _,
     cw:=λd o Z=>by simp[Y.get]at Z,dA:=λd dh Z=>by simp[Y.get]at Z,keep:=λd Z=>by simp at Z}
  refine Calls.mono (cM _ w (h2 w) β _ fB ud.Kv) ?_;rintro e w' ⟨v,he,r',σ3,aU,β',⟨qj,zc⟩,kD,e1⟩;subst qj zc;have yU:∀b,b<w.heap.size→w'.heap[b]?=w.heap[b]?:=λb U=>e1.frame b U (by simp[nY,u2])
  have nD:∀b,Place (nY (h2 w) β [] w) b→w.heap.size≤b:=λb U=>by
    rcases U with U|U
    · exact U
    · simp[nY,u2]at U
  have key:bY ⟨G.P,0,[]⟩ (nY I β [] w) (λb o=>if b<w.heap.size then I b o else aU b o) β' σ3 w':=
    {good:=λb o v aa=>by
        by_cases U:b<w.heap.size
        · simp only[U,if_true]at aa
          have h1:=an.good b o v aa;rw[World.cell?_of_block (w:=w) (yU b U)];exact h1
        · simp only[U,if_false]at aa
          exact e1.good b o v aa
     hM:=λb v aa=>by
        by_cases U:b<w.heap.size
        · simp only[U,if_true]at aa
          obtain⟨es,clock,h1,D⟩:=an.hM b v aa;exact⟨es,clock,by rw[yU b U];exact h1,D⟩
        · simp only[U,if_false]at aa
          exact e1.hM b v aa
     jg:=λb o v aa=>by
        have bL:b<w.heap.size:=an.acL aa;simp only[bL,if_true];exact aa
     iV:=λb U _ o=>by
        have U:b<w.heap.size:=U;simp only[U,if_true];rfl
     frame:=λb U _=>yU b U
     size:=e1.size,tape:=e1.tape,os:=e1.os,output:=e1.output,drawn:=e1.drawn
     cw:=λd o Z=>by
        have ai:=e1.cw d o Z;have qP:=A5.get Z;cases o with
        |slice T sz xs jx c5=>
          simp only[aY]at ai ⊢;rcases ai with q|q|⟨b,aO,arr,ak,ar,aM,aK,be,bJ,b8,cT,dD,eB,fm⟩
          · exact .inl q
          · exact .inr (.inl q)
          · have U:=nD b fm
            have vT:¬b<w.heap.size:=by omega
            refine .inr (.inr ⟨b,aO,arr,ak,ar,aM,aK,be,cV.iI _ _ (Ww qP) bJ,b8,cT,?_,?_,.inl U⟩)
            · simp only[vT,if_false];exact dD
            · simp only[vT,if_false];exact eB
        |cells _ _=>exact absurd qP id
        |map K E bH=>
          simp only[aY]at ai ⊢;rcases ai with q|⟨r,es,clock,ak,ar,aM,aK,be,bJ⟩
          · exact .inl q
          · have U:=nD r be
            have vT:¬r<w.heap.size:=by omega
            refine .inr ⟨r,es,clock,ak,ar,gq.iI _ _ qP aM,λo=>?_,.inl U,bJ⟩;simp only[vT,if_false];exact aK o
        |win _ _ _=>exact absurd qP id
        |kf _ _ _=>exact absurd qP id
        |gz _ _ _ _ _=>exact absurd qP id
        |iter _ _ _ _=>exact absurd qP id
        |hdr _ _=>exact absurd qP id
        |b9 _=>exact absurd qP id
        |eO _ _ _ _=>exact absurd qP id
        |gP _ _ _=>exact absurd qP id
        |vec _ _=>exact absurd qP id
        |jP _ _ _ _=>exact absurd qP id
        |fc _ _ _ _ _ _=>exact absurd qP id
     dA:=e1.dA,keep:=λd Z=>by simp at Z}
  have A8:∀d∈news,d∉G.ids∧σ.get d=none:=λd Z=>by
    have:=List.all_eq_true.1 aR d Z;simpa using this
  have hm:σ.minus (Y.ids [])=σ:=NN σ;obtain⟨cp,cG,gC⟩:=an.after (dk:=[]) (by simp) key news A8 (by rw[hm];exact hX) (by simpa [Y.ids]using D);rw[hm]at cp;refine⟨v,he,r',_,_,_,⟨rfl,rfl⟩,gC r' v (by simpa [Y.ids]using jI) (au.q7 r' v aB kD),cp,cG,λd Z=>by simp[Z],λd Z=>?_⟩;rw[as5];cases a1:σ3.get d with
  |some hx=>
    have:=(asF D d hx a1).1;have:news.contains d=true:=by rw[←Bool.not_eq_false'];exact this
    exact absurd (List.contains_iff_mem.1 this) Z
  |none=>rfl
def F0(op:BinOp)(k:IntKind)(m n:Int):Option Q:=match op with
 |.add=>some (.int k (k.wrap (m+n)))
 |.sub=>some (.int k (k.wrap (m-n)))
 |.mul=>some (.int k (k.wrap (m*n)))
 |.lss=>some (.bool (decide (m<n)))
 |.leq=>some (.bool (decide (m≤n)))
 |.gtr=>some (.bool (decide (n<m)))
 |.geq=>some (.bool (decide (n≤m)))
 |.eql=>some (.bool (decide (m=n)))
 |.neq=>some (.bool (!decide (m=n)))
 |.and=>some (.int k (lW .and k m n))
 |.or=>some (.int k (lW .or k m n))
 |.xor=>some (.int k (lW .xor k m n))
 |.andNot=>some (.int k (lW .andNot k m n))
 |_=>none
def Si(bP:g4)(env:ah)(σ:Y)(c:Call):Option (dg×Q):=match c.callee with
 |.builtin b=>(match b with
  |.len=>(match c.args.toList with
   |[x]=>(match c.argTypes.toList with
    |[T]=>(match bP.get T with
     |some ⟨_,_,_,.slice _ _ _ _⟩=>(match env.cW x with
      |some (.bf _ xs)=>some ([],.int .i64 (xs.length:Int))
      |some .c4=>some ([],.int .i64 0)
      |some (.own d)=>(match σ.get d with|some (.slice _ _ xs _ _)=>some ([d],.int .i64 (xs.length:Int))|some (.win _ _ xs)=>some ([d],.int .i64 (xs.length:Int))|_=>none)
      |_=>none)
     |some ⟨_,_,_,.str⟩=>(match env.cW x with|some (.str s)=>some ([],.int .i64 (s.size:Int))|_=>none)
     |_=>none)
    |_=>none)
   |_=>none)
  |.min=>(match c.args.toList with
   |[x,y]=>(match env.cW x with
    |some (.int k m)=>(match env.cW y with|some (.int _ n)=>some ([],.int k (if n<m then n else m))|_=>none)
    |_=>none)
   |_=>none)
  |.max=>(match c.args.toList with
   |[x,y]=>(match env.cW x with
    |some (.int k m)=>(match env.cW y with|some (.int _ n)=>some ([],.int k (if n>m then n else m))|_=>none)
    |_=>none)
   |_=>none)
  |_=>none)
 |_=>none
def K2(bP:g4)(env:ah)(σ:Y):Op→Option (dg×Q)
 |.move x|.assign x=>match env.cW x with|none=>none|some a=>some ([],a)
 |.pick c x y=>match env.cW c with
  |some (.bool true)=>(match env.cW x with|none=>none|some a=>some ([],a))
  |some (.bool false)=>(match env.cW y with|none=>none|some a=>some ([],a))
  |_=>none
 |.fieldAddr T x f=>match bP.get T with
  |some ⟨_,_,_,.struct _ fG _⟩=>(match fG[f]? with
   |none=>none
   |some (off,_)=>match env.cW x with
    |some (.ptr d p)=>some ([],.ptr d (p+off))
    |some (.fO cs)=>(match spine (cs.drop off)with|none=>none|some l=>some ([],.fO l))
    |_=>none)
  |_=>none
 |.field T x f=>match bP.get T with
  |some ⟨_,_,_,.struct _ fG qH⟩=>(match fG[f]? with
   |none=>none
   |some (off,n)=>match qH[f]? with
    |none=>none
    |some dG=>match env.cW x with
     |some (.agg cs)=>bif Nat.ble (off+n) cs.length then(match pe dG n (cs.drop off)with|none=>none|some a=>some ([],a))else none
     |_=>none)
  |_=>none
 |.load T x=>match bP.get T with
  |none=>none
  |some i=>match env.cW x with
   |some (.ptr d p)=>(match σ.get d with
    |some (.cells _ cs)=>bif (i.dG||Nat.blt 0 i.sz)&&Nat.ble (p+i.sz) cs.length then(match pe i.dG i.sz (cs.drop p)with|none=>none|some a=>some ([d],a))else none
    |_=>none)
   |some (.fO cs)=>bif (i.dG||Nat.blt 0 i.sz)&&Nat.ble i.sz cs.length then(match pe i.dG i.sz cs with|none=>none|some a=>some ([],a))else none
   |_=>none
 |.binOp op T x y _=>match env.cW x with
  |some (.int k m)=>(match env.cW y with
   |some (.int dS n)=>bif decide (k=dS)then(match F0 op k m n with|none=>none|some a=>some ([],a))else none
   |_=>none)
  |some (.bool a)=>(match bP.get T with
   |some ⟨_,_,_,.bool⟩=>(match env.cW y with
    |some (.bool b)=>(match op with
     |.eql=>some ([],.bool (a==b))
     |.neq=>some ([],.bool (!(a==b)))
     |_=>none)
    |_=>none)
   |_=>none)
  |_=>none
 |.unOp op _ x=>match op with
  |.not=>(match env.cW x with|some (.bool b)=>some ([],.bool (!b))|_=>none)
  |.neg=>(match env.cW x with|some (.int k n)=>some ([],.int k (k.wrap (0-n)))|_=>none)
  |_=>none
 |.convert T aV x=>match bP.get T with
  |some ⟨_,_,_,.int _⟩=>(match bP.get aV with
   |some ⟨_,_,_,.int dS⟩=>(match env.cW x with|some (.int _ n)=>some ([],.int dS (dS.wrap n))|_=>none)
   |_=>none)
  |_=>none
 |.extract x j=>match env.cW x with
  |some (.cI vs)=>(match vs[j]? with|none=>none|some a=>some ([],a))
  |_=>none
 |.nilCheck x=>match env.cW x with
  |some (.ptr d p)=>some ([],.ptr d p)
  |some (.fO cs)=>some ([],.fO cs)
  |_=>none
 |.build T parts=>match bP.get T with
  |some ⟨_,_,_,.struct zs fG _⟩=>(match env.sZ parts.toList with
   |none=>none
   |some ps=>match zZ fG (rU zs) ps with|none=>none|some cs=>some ([],.agg cs))
  |_=>none
 |.buildSlice T len parts=>match bP.get T with
  |some ⟨_,_,_,.slice _ sz _ _⟩=>bif Nat.beq parts.size len&&(Nat.ble (len*sz) 65536&&Nat.ble len 65536)then(match env.sZ parts.toList with
   |none=>none
   |some ps=>match v2 sz 0 (Dk ps)with
    |none=>none
    |some xs=>bif lT xs.flatten then some ([],.bf true xs)else none)else none
  |_=>none
 |.makeFunc fn first aO=>match fn with
  |.func f=>(match first.toList with
   |[]=>(match env.pn aO.toList with|none=>none|some l=>some ([],.fn f l))
   |_=>none)
  |_=>none
 |.call c=>Si bP env σ c
 |_=>none
end
section
section
variable {P:Program}{N:Nat}{ids:dg}{bP:g4}{o:Oper}{env:ah}{σ:Y}
def aun{G:ch}{ev:Operand→Q}{T:TypeId}{x:Operand}{k:IntKind}{n:Int}(h:o.op=.unOp .neg T x)(u:ev x=.int k n):Yields G o ev σ [] [] (.int k (k.wrap (0-n))):=
 .pure λ_ _ I β w aZ _ _ hop=>by
  have h1:=hop x (by simp[h,Op.operands]);rw[u]at h1;have h1:=jW h1
  exact⟨.int k (k.wrap (0-n)),by simp only[execOp,h,h1,Op.unary,Op.intArith];rfl,by simp[au,bc]⟩
def aug{G:ch}{ev:Operand→Q}{T aV:TypeId}{x y:Operand}{k:IntKind}{m n:Int}(h:o.op=.binOp .quo T x y aV)(u:ev x=.int k m)(ag:ev y=.int k n)(aR:n≠0):Yields G o ev σ [] [] (.int k (k.wrap (m.tdiv n))):=
 bK.int h u ag (by decide) (λw=>by simp[Op.intDiv,aR];rfl) (λ_ _=>by simp only[au,bc])
def zQ(xs:List (List Q)):xs.map id=xs:=List.map_id xs
def auX{G:ch}{o:Oper}{ev:Operand→Q}{σ:Y}{T E sz len d:Nat}{parts:Array (Nat×Operand)}{zs:dZ}{xs:List (List Q)}(h:o.op=.buildSlice T len parts)(aQ:ml G.P T E sz zs)(aH:parts.size=len)(X:len*sz≤65536∧len≤65536)
  (bm:u6 sz 0 (parts.toList.map λp=>(p.1,ev p.2))=some xs) (af:lT xs.flatten=true) (hi:G.ids.contains d=false):Yields G o ev ((d,.slice E sz xs 0 false)::σ) [d] [d] (.own d):=by
 intro az cx I β w aZ cf an hm hop;have h1:∀p∈parts.toList,au I β (ev p.2) (aZ p.2):=λp aC=>hop p.2 (by simp only[h,Op.operands];simpa using ⟨p.1,by simpa using aC⟩);obtain⟨z,i4,h9⟩:=aQ.zero w
 let L:iY:=(Array.range (len*sz)).map ((if len*sz=0 then #[]else z.cells)[·%(if len*sz=0 then #[]else z.cells:iY).size]!)
 have tE:L.size=len*sz:=by simp[L]
 obtain⟨r,bI,gJ,gA,mM,pr,wE,vp⟩:=EF (I:=I) (β:=β) sz (parts.toList.map λp=>(p.1,ev p.2)) (parts.toList.map λp=>(p.1,aZ p.2)) 0 L xs
  ⟨by simp,λj p q aT bV=>by
   simp only[List.getElem?_map]at aT bV;cases u:parts.toList[j]? with
   |none=>rw[u]at aT;cases aT
   |some y=>
    rw[u]at aT bV;simp only[Option.map_some,Option.some.injEq]at aT bV;subst aT bV;exact⟨rfl,h1 y (List.mem_of_getElem? u)⟩⟩ bm (by simp[tE,aH])
 have xB:r.toList=bI:=by
  rw[mM];have mT:L.toList.drop ((0+(parts.toList.map λp=>(p.1,ev p.2)).length)*sz)=[]:=drop_of_length_le (by simp[tE,aH]);rw[mT];simp
 have o3:xs.length=len:=by rw[vp];simp[aH]
 have eY:(execOp aZ o).run G.P w=.ok (.value (.slice (some ⟨w.heap.size,0,none⟩) len len)) (w.alloc (.cells r E)):=by
  have y5:¬(len*sz>2 ^ 24):=by have:(2:Nat) ^ 24=16777216:=by decide
                               omega
  have nF:Instr.fill (λi=>some (i*sz,sz)) L (parts.map λ(i,x)=>(i,aZ x)).toList=some r:=by simpa using gJ
  simp only[execOp,h,Instr.buildSlice,Sem.run_bind,run_underlying aQ.gY,aQ.size,Result.andThen_ok,y5,if_false];by_cases bM:len*sz=0
  ·have rG:L=(Array.range (len*sz)).map ((#[]:iY)[·%(#[]:iY).size]!):=by simp only[L,bM,if_true]
   rw[rG]at nF;simp only[bM,if_true,Sem.run_bind,Sem.run_pure,Result.andThen_ok]at nF ⊢;simp only[nF];simp[newRow]
  ·have rG:L=(Array.range (len*sz)).map (z.cells[·%z.cells.size]!):=by simp only[L,bM,if_false]
   rw[rG]at nF;simp only[bM,if_false,Sem.run_bind,i4,Sem.run_pure,Result.andThen_ok];simp only[nF];simp[newRow]
 rw[eY];have lF:=hm d (by simp);have Vv:=wE;have A5:=zo xs Vv;have G1:bI.length=xs.length*sz:=by rw[sx _ _ pr,A5]
 refine⟨I,g7 β d (.slice (some ⟨w.heap.size,0,none⟩) len len),by simp only[au];exact⟨(gL _ _ _).symm,rfl⟩,?_,cn.refl I,λx u=>g5 β _ (λe=>u (by simp[e]))⟩;refine an.real (by simpa using hi) lF rfl λaX cC=>?_;rw[cf d (by simp),asw,if_pos rfl]at cC;injection cC with cC
 subst cC;simp only[aY,gL];refine .inr (.inr ⟨w.heap.size,len,r,by rw[o3],by omega,by simp only[maxLen];omega,heap_alloc_new w _,?_,?_,Vv,by omega,(λh=>by cases h),λo _=>an.iF (Nat.le_refl _) o,.inl an.size⟩)
 ·rw[←Array.length_toList,xB,G1,o3]
 ·rw[xB,take_of_length_le (by rw[G1];exact Nat.le_refl _)];exact bW.closed _ _ af pr
def aub{G:ch}{ev:Operand→Q}{gO:Operand}{args:Array Operand}{k:Array TypeId}{f:FuncId}{aO dx:List Q}{σs:Y}{r:Q}(h:o.op=.call ⟨.value gO,args,k⟩)(bm:ev gO=.eU f aO)
  (o7:∀(args:iY) (w:World),(callFunc f args).run G.P w=.ok (.enter f args) w) (X:∀p∈σs,σ.get p.1=some p.2) (ay:jE σs (args.toList.map ev) dx)
  (cM:dT G.P f [] (dx++aO) r) (aB:r.closed=true):Yields G o ev σ [] σs.ids r:=by
 intro az cx I β w aZ cf an _ hop;have jh:=hop gO (by simp[h,Op.operands,Call.operands]);rw[bm]at jh;simp only[au,bc]at jh;obtain⟨vs,jh,n4⟩:=jh;rw[BM h jh o7]
 have ki:∀d o,σs.get d=some o→az.get d=some o:=λd o Z=>by
  obtain⟨p,cQ,dM,eH⟩:=sI σs d o Z;rw[cf d (by rw[←dM];exact List.mem_map.2 ⟨p,cQ,rfl⟩),←dM,←eH];exact X p cQ
 have xC:=an.sub ki;have lX:=xO ev aZ args.toList λx u=>hop x (by simp only[h,Op.operands,Call.operands];simp;right;simpa using u);have ud:=rF _ _ _ _ (ay.rep xC _ lX) (cV.rep β _ _ n4);have fB:=an.yd (P:=G.P) (dk:=[]) (by simp);refine Calls.mono (cM _ w I β _ fB ud) ?_;rintro e w' ⟨v,he,r',σ2,aU,β',⟨qj,jI⟩,kD,e1⟩;subst qj jI;obtain⟨h1,D,aj⟩:=an.after (dk:=[]) (by simp) e1 [] (by simp) (atm _) rfl;refine⟨v,he,aU,β,?_,?_,D,λ_ _=>rfl⟩
 ·exact bc.rep β _ _ (au.closed r' v aB kD)
 ·refine({h1 with}:bY G cx aU β ([]++az.minus (Y.ids [])) w').sub λd o Z=>?_;rw[as5,asG];simpa [Y.get,Y.ids]using Z
def aul{G:ch}{ev:Operand→Q}{x y:Operand}{k dS:IntKind}{m n:Int}{ts:Array TypeId}(h:o.op=.call ⟨.builtin .min,#[x,y],ts⟩)(u:ev x=.int k m)(ag:ev y=.int dS n):Yields G o ev σ [] [] (.int k (if n<m then n else m)):=
 .pure λ_ _ I β w aZ _ _ yc=>by
  have h1:=yc x (by simp[h,Op.operands,Call.operands]);rw[u]at h1;have h1:=jW h1
  have D:=yc y (by simp[h,Op.operands,Call.operands]);rw[ag]at D;have D:=jW D
  exact⟨.int k (if n<m then n else m),by simp[execOp,h,resolve,invoke,builtin,Builtin.min_,Builtin.min2,h1,D],by simp[au,bc]⟩
def auk{G:ch}{ev:Operand→Q}{x y:Operand}{k dS:IntKind}{m n:Int}{ts:Array TypeId}(h:o.op=.call ⟨.builtin .max,#[x,y],ts⟩)(u:ev x=.int k m)(ag:ev y=.int dS n):Yields G o ev σ [] [] (.int k (if n>m then n else m)):=
 .pure λ_ _ I β w aZ _ _ yc=>by
  have h1:=yc x (by simp[h,Op.operands,Call.operands]);rw[u]at h1;have h1:=jW h1
  have D:=yc y (by simp[h,Op.operands,Call.operands]);rw[ag]at D;have D:=jW D
  exact⟨.int k (if n>m then n else m),by simp[execOp,h,resolve,invoke,builtin,Builtin.max_,Builtin.max2,h1,D],by simp[au,bc]⟩
def acn{op:BinOp}{T aV:TypeId}{x y:Operand}{k:IntKind}{m n:Int}{a:Q}(h:o.op=.binOp op T x y aV)(u:env.ev x=.int k m)(ag:env.ev y=.int k n)(U:F0 op k m n=some a):Yields ⟨P,N,ids⟩ o env.ev σ [] [] a:=by
 cases op<;>simp only[F0,Option.some.injEq]at U<;>first|cases U|skip
 all_goals (try subst U)
 ·exact auZ h u ag
 ·exact auq h u ag
 ·exact aum h u ag
 ·exact bK.and h u ag
 ·exact bK.or h u ag
 ·exact bK.xor h u ag
 ·exact bK.andNot h u ag
 ·exact bK.eql h u ag
 ·exact bK.neq h u ag
 ·exact bK.lss h u ag
 ·exact bK.leq h u ag
 ·exact bK.gtr h u ag
 ·exact bK.geq h u ag
def adV(bb:jT P bP){R:dg}{bN:Q}(h:K2 bP env σ o.op=some (R,bN)):Yields ⟨P,N,ids⟩ o env.ev σ [] R bN:=by
 cases ai:o.op<;>rw[ai]at h<;>simp only[K2]at h
 case move x=>
  cases u:env.cW x with
  |none=>rw[u]at h;cases h
  |some a=>rw[u]at h;cases h;rw[←asv u];exact bK.move ai
 case assign x=>
  cases u:env.cW x with
  |none=>rw[u]at h;cases h
  |some a=>rw[u]at h;cases h;rw[←asv u];exact bK.assign ai
 case pick c x y=>
  split at h
  ·rename_i af;cases u:env.cW x with
   |none=>rw[u]at h;cases h
   |some a=>rw[u]at h;cases h;rw[←asv u];exact atF ai (asv af) rfl
  ·rename_i af;cases u:env.cW y with
   |none=>rw[u]at h;cases h
   |some a=>rw[u]at h;cases h;rw[←asv u];exact atG ai (asv af) rfl
  ·cases h
 case fieldAddr T x f=>
  split at h
  ·rename_i sz dG aoK zs fG qH aQ;split at h
   ·cases h
   ·rename_i off n bm;have hk:=(jF.get bb.tys aQ).kd;simp only[mG]at hk;split at h
    ·rename_i d p u;cases h;exact at3 ai (asv u) (hk.2.1 _ _ _ bm)
    ·rename_i cs u;cases X:spine (cs.drop off)with
     |none=>rw[X]at h;cases h
     |some l=>rw[X]at h;cases h;rw[←u3 X];exact atX ai (asv u) (hk.2.1 _ _ _ bm)
    ·cases h
  ·cases h
 case field T x f=>
  split at h
  ·rename_i sz dG aoK zs fG qH aQ;split at h
   ·cases h
   ·rename_i off n bm;split at h
    ·cases h
    ·rename_i Y9 ajs;have hk:=(jF.get bb.tys aQ).kd;simp only[mG]at hk;split at h
     ·rename_i cs u;cases U:Nat.ble (off+n) cs.length with
      |false=>rw[U]at h;cases h
      |true=>
       rw[U]at h;simp only[cond_true]at h;cases X:pe Y9 n (cs.drop off)with
       |none=>rw[X]at h;cases h
       |some a=>rw[X]at h;cases h;exact b7.field ai (asv u) (hk.2.2 _ _ _ _ bm ajs) U X
     ·cases h
  ·cases h
 case load T x=>
  split at h
  ·cases h
  ·rename_i i aQ;have hk:=(jF.get bb.tys aQ).ty;split at h
   ·rename_i d p u;split at h
    ·rename_i aV cs Z;cases U:((i.dG||Nat.blt 0 i.sz)&&Nat.ble (p+i.sz) cs.length)with
     |false=>rw[U]at h;cases h
     |true=>
      rw[U]at h;simp only[cond_true]at h;simp only[Bool.and_eq_true]at U;cases X:pe i.dG i.sz (cs.drop p)with
      |none=>rw[X]at h;cases h
      |some a=>rw[X]at h;cases h;exact auQ ai (asv u) hk Z U.1 U.2 X
    ·cases h
   ·rename_i cs u;cases U:((i.dG||Nat.blt 0 i.sz)&&Nat.ble i.sz cs.length)with
    |false=>rw[U]at h;cases h
    |true=>
     rw[U]at h;simp only[cond_true]at h;simp only[Bool.and_eq_true]at U;cases X:pe i.dG i.sz cs with
     |none=>rw[X]at h;cases h
     |some a=>rw[X]at h;cases h;exact auR ai (asv u) hk U.1 U.2 X
   ·cases h
 case binOp op T x y aV=>
  split at h
  ·rename_i k m u;split at h
   ·rename_i dS n ag;cases y2:decide (k=dS)with
    |false=>rw[y2]at h;cases h
    |true=>
     rw[y2]at h;simp only[cond_true]at h;have:=of_decide_eq_true y2;subst this;cases U:F0 op k m n with
     |none=>rw[U]at h;cases h
     |some a=>rw[U]at h;cases h;exact acn ai (asv u) (asv ag) U
   ·cases h
  ·rename_i a u;split at h
   ·rename_i aQ;have hk:=(jF.get bb.tys aQ).kd;simp only[mG]at hk;split at h
    ·rename_i b ag;split at h
     ·cases h;exact aud ai (asv u) (asv ag) hk
     ·cases h;exact aue ai (asv u) (asv ag) hk
     ·cases h
    ·cases h
   ·cases h
  ·cases h
 case unOp op T x=>
  split at h
  ·split at h
   ·rename_i b u;cases h;exact bK.not ai (asv u)
   ·cases h
  ·split at h
   ·rename_i k n u;cases h;exact aun ai (asv u)
   ·cases h
  ·cases h
 case convert T aV x=>
  split at h
  ·rename_i aQ;split at h
   ·rename_i dS DM;split at h
    ·rename_i k n u;cases h
     have h1:=(jF.get bb.tys aQ).kd;have D:=(jF.get bb.tys DM).kd;simp only[mG]at h1 D;exact bK.convert ai (asv u) ⟨_,h1⟩ D
    ·cases h
   ·cases h
  ·cases h
 case extract x j=>
  split at h
  ·rename_i vs u;cases aT:vs[j]? with
   |none=>rw[aT]at h;cases h
   |some a=>rw[aT]at h;cases h;exact bK.extract ai (asv u) aT
  ·cases h
 case nilCheck x=>
  split at h
  ·rename_i d p u;cases h;exact au0 ai (asv u)
  ·rename_i cs u;cases h;exact au1 ai (asv u)
  ·cases h
 case build T parts=>
  split at h
  ·rename_i aQ;have hk:=(jF.get bb.tys aQ).kd;simp only[mG]at hk;split at h
   ·cases h
   ·rename_i ps aC;split at h
    ·cases h
    ·rename_i cs bm;cases h;exact b7.build ai hk.1 aC bm
  ·cases h
 case buildSlice T len parts=>
  split at h
  ·rename_i aQ;have hk:=(jF.get bb.tys aQ).kd;simp only[mG]at hk;generalize U:(Nat.beq parts.size len&&_)=eM at h;cases eM with
   |false=>cases h
   |true=>
    simp only[cond_true]at h;rw[Bool.and_eq_true]at U;split at h
    ·cases h
    ·rename_i ps aC;split at h
     ·cases h
     ·rename_i xs bm;cases af:lT xs.flatten with
      |false=>rw[af]at h;cases h
      |true=>rw[af]at h;cases h;exact(bK.buildSlice ai hk.2.2 (by simpa using U.1) (by simpa using U.2) (by rw[←N9,as1 aC];exact EG _ bm) af).off
  ·cases h
 case makeFunc fn first aO=>
  split at h
  ·rename_i f;split at h
   ·rename_i bm;split at h
    ·cases h
    ·rename_i l aH;cases h
     have:first=#[]:=by simpa using bm
     subst this;exact b7.makeFunc ai aH
   ·cases h
  ·cases h
 case call c=>
  obtain⟨cl,args,tys⟩:=c;simp only[Si]at h;split at h
  ·rename_i b;split at h
   ·split at h
    ·rename_i x lZ;have:args=#[x]:=Array.toList_inj.1 (by simpa using lZ);subst this;split at h
     ·rename_i T yQ;have:tys=#[T]:=Array.toList_inj.1 (by simpa using yQ);subst this;split at h
      ·rename_i aQ;have hk:=(jF.get bb.tys aQ).kd;simp only[mG]at hk;split at h
       ·rename_i f xs u;cases h;exact atI (rs:=xs) (enc:=id) ai rfl (by rw[zQ];exact asv u) hk.1.gY
       ·rename_i u;cases h;exact aui ai rfl (asv u) hk.1.gY
       ·rename_i d u;split at h
        ·rename_i Z;cases h;exact auV (enc:=id) ai rfl (asv u) (by rw[zQ];exact Z) hk.1.gY
        ·rename_i xs Z;cases h;exact Yields.win Z (atI (rs:=xs) (enc:=id) ai rfl (by rw[zQ];exact PI (asv u)) hk.1.gY)
        ·cases h
       ·cases h
      ·rename_i aQ;have hk:=(jF.get bb.tys aQ).kd;simp only[mG]at hk;split at h
       ·rename_i s u;cases h;exact auj ai rfl (asv u) hk
       ·cases h
      ·cases h
     ·cases h
    ·cases h
   ·split at h
    ·rename_i l4 ho lZ;have:args=#[l4,ho]:=Array.toList_inj.1 (by simpa using lZ);subst this;split at h
     ·rename_i k m u;split at h
      ·rename_i dS n ag;cases h;exact aul ai (asv u) (asv ag)
      ·cases h
     ·cases h
    ·cases h
   ·split at h
    ·rename_i l4 ho lZ;have:args=#[l4,ho]:=Array.toList_inj.1 (by simpa using lZ);subst this;split at h
     ·rename_i k m u;split at h
      ·rename_i dS n ag;cases h;exact auk ai (asv u) (asv ag)
      ·cases h
     ·cases h
    ·cases h
   ·cases h
  ·cases h
 all_goals cases h
end
end
section
def wA(env:ah)(c:Call):Option (FuncId×List Q):=match c.callee with
 |.value gO=>(match env.cW gO with
  |some (.fn f aO)=>(match env.pn c.args.toList with|none=>none|some ps=>some (f,ps++aO))
  |_=>none)
 |_=>none
variable {cv:List Q}{f:FuncId}
def BO{env:ah}{c:Call}(h:wA env c=some (f,cv)):∃gO args k aO ps,c=⟨.value gO,args,k⟩∧env.ev gO=.fn f aO∧env.pn args.toList=some ps∧cv=ps++aO:=by
 obtain⟨cl,args,k⟩:=c;simp only[wA]at h;split at h
 ·rename_i gO;split at h
  ·rename_i oS aO bm;split at h
   ·cases h
   ·rename_i ps aC;cases h
    exact⟨gO,args,k,aO,ps,rfl,asv bm,aC,rfl⟩
  ·cases h
 ·cases h
def JX(env:ah)(c:Call):Option (FuncId×List Q×List Q):=match c.callee with
 |.value gO=>(match env.cW gO with
  |some (.eU f aO)=>(match env.pn c.args.toList with|none=>none|some ps=>some (f,ps,aO))
  |_=>none)
 |_=>none
def Zc{env:ah}{c:Call}{vF:List Q}(h:JX env c=some (f,cv,vF)):∃gO args k,c=⟨.value gO,args,k⟩∧env.ev gO=.eU f vF∧env.pn args.toList=some cv:=by
 obtain⟨cl,args,k⟩:=c;simp only[JX]at h;split at h
 ·rename_i gO;split at h
  ·rename_i oS aO bm;split at h
   ·cases h
   ·rename_i ps aC;cases h
    exact⟨gO,args,k,rfl,asv bm,aC⟩
  ·cases h
 ·cases h
def Kw:Q→Option Q
 |.fn f l=>bif lT l then some (.eU f l)else none
 |a=>some a
def aco{σ:Y}{a b c:Q}(h:iw σ a b)(U:Kw b=some c):iw σ a c:=by
 cases b<;>simp only[Kw,Option.some.injEq]at U<;>first|(subst U;exact h)|skip
 rename_i f l;cases af:lT l with
 |false=>rw[af]at U;cases U
 |true=>rw[af]at U;cases U;exact .eU h af
def Ch(σ:Y):Nat→List Q→Option (List Q)
 |_,[]=>some []
 |m,x::r=>match(bif Nat.beq (m%2) 1 then some x else match jG [] σ x with|none=>none|some a=>Kw a)with
  |none=>none
  |some a=>match Ch σ (m / 2) r with
   |none=>none
   |some l=>some (a::l)
def Ob{σ:Y}:∀{m:Nat} {a b:List Q},Ch σ m a=some b→jE σ a b
 |m,[],b,h=>by simp only[Ch,Option.some.injEq]at h;subst h;exact .nil
 |m,x::r,b,h=>by
  simp only[Ch]at h;split at h
  ·cases h
  ·rename_i a ay;split at h
   ·cases h
   ·rename_i l aH;simp only[Option.some.injEq]at h;subst h
    refine .cons ?_ (Ob aH);cases U:Nat.beq (m%2) 1 with
    |true=>rw[U]at ay;cases ay;exact .refl _
    |false=>
     rw[U]at ay;simp only[cond_false]at ay;split at ay
     ·cases ay
     ·rename_i a0 UX;exact aco (tX UX) ay
def jE.append{σ:Y}:∀{a b c d:List Q},jE σ a b→jE σ c d→jE σ (a++c) (b++d)
 |_,_,_,_,.nil,h=>h
 |_,_,_,_,.cons h t,D=>.cons h (jE.append t D)
def sV(env:ah)(d:Int):Option Operand→jo
 |none=>some d
 |some x=>match env.cW x with|some (.int _ n)=>some n|_=>none
variable {x:Option Operand}
def OQ{env:ah}{n:Int}(h:sV env 0 x=some n):vf env.ev x∧mm env.ev x=n:=by
 cases x with
 |none=>simp only[sV,Option.some.injEq]at h;exact⟨trivial,h⟩
 |some x=>
  simp only[sV]at h;split at h
  ·rename_i k m hm;cases h;exact⟨⟨k,_,asv hm⟩,by simp only[mm,asv hm]⟩
  ·cases h
def OR{env:ah}{l:Nat}{n:Int}(h:sV env (l:Int) x=some n):vf env.ev x∧q5 env.ev l x=n:=by
 cases x with
 |none=>simp only[sV,Option.some.injEq]at h;exact⟨trivial,h⟩
 |some x=>
  simp only[sV]at h;split at h
  ·rename_i k m hm;cases h;exact⟨⟨k,_,asv hm⟩,by simp only[q5,asv hm]⟩
  ·cases h
def Nj(env:ah)(σ:Y)(bP:g4):Op→Option c7
 |.store T x y=>match bP.get T with
  |none=>none
  |some i=>match env.cW x with
   |some (.ptr d p)=>(match env.cW y with
    |none=>none
    |some a=>match σ.get d with
     |some (.cells aV cs)=>(match sO a with
      |none=>none
      |some ca=>bif a.flat&&Nat.beq ca.length i.sz&&Nat.ble (p+i.sz) cs.length then(match spine (iZ cs p ca)with
       |none=>none
       |some ow=>some (.e [d] [] .undef (σ.set d (.cells aV ow))))else none)
     |_=>none)
   |_=>none
 |_=>none
def w6(bP:g4)(ids:dg)(env:ah)(d:Nat):Op→Option c7
 |.alloc T=>match bP.get T with
  |some ⟨_,_,some zs,_⟩=>(match spine (rU zs)with|none=>none|some cs=>bif !ids.contains d then some (.v d (.cells T cs) (.ptr d 0))else none)
  |_=>none
 |.box T x=>match env.cW x with
  |none=>none
  |some a=>match sO a with
   |none=>none
   |some cs=>bif a.flat&&!a.refs (Nat.beq d)&&!ids.contains d then some (.v d (.cells T cs) (.ptr d 0))else none
 |.buildSlice T len parts=>match bP.get T with
  |some ⟨_,_,_,.slice E sz _ _⟩=>bif Nat.beq parts.size len&&(Nat.ble (len*sz) 65536&&Nat.ble len 65536)&&!ids.contains d then(match env.sZ parts.toList with
   |none=>none
   |some ps=>match v2 sz 0 (Dk ps)with
    |none=>none
    |some xs=>bif lT xs.flatten then some (.v d (.slice E sz xs 0 false) (.own d))else none)else none
  |_=>none
 |.makeMap T none=>match bP.get T with
  |some ⟨_,_,_,.map K E _⟩=>bif !ids.contains d then some (.v d (.map K E []) (.dr d))else none
  |_=>none
 |_=>none
def Hk(bP:g4)(env:ah)(σ:Y)(sz:Nat)(row:List Q):Op→Option (c7×cZ)
 |.indexAddr T x y=>match bP.get T with
  |some ⟨_,_,_,.slice _ jk _ _⟩=>(match env.cW y with
   |some (.int _ i)=>(match env.cW x with
    |some (.bf _ xs)=>(match spine row with
     |none=>none
     |some r=>bif Nat.beq jk sz then some (.y [] (.fO r),([.bf false xs,.int .i64 i],[]))else none)
    |some (.own d)=>(match σ.get d with
     |some (.slice _ qw xs _ _)=>bif Nat.beq jk sz&&Nat.beq qw sz then some (.y [d] (.ptr d (i.toNat*sz)),([.bf false xs,.int .i64 i],[]))else none
     |some (.win _ _ xs)=>(match spine row with
      |none=>none
      |some r=>bif Nat.beq jk sz then some (.y [d] (.fO r),([.bf false xs,.int .i64 i],[]))else none)
     |_=>none)
    |_=>none)
   |_=>none)
  |_=>none
 |_=>none
def HD(bP:g4)(env:ah)(σ:Y)(d sz off:Nat)(row:List Q):Op→Option (c7×cZ)
 |.load T x=>match bP.get T with
  |none=>none
  |some i=>match env.cW x with
   |some (.ptr dh p)=>(match σ.get d with
    |some (.slice _ jk xs _ _)=>bif Nat.beq dh d&&Nat.beq jk sz&&(i.dG||Nat.blt 0 i.sz)&&Nat.ble (off+i.sz) sz then(match pe i.dG i.sz (row.drop off)with
     |none=>none
     |some a=>some (.y [d] a,([.bf false xs,.ptr dh p],[])))else none
    |_=>none)
   |_=>none
 |_=>none
def It(bP:g4)(env:ah)(σ:Y)(d sz off k:Nat)(zs:List (List Q)):Op→Option (c7×cZ)
 |.store T x y=>match bP.get T with
  |none=>none
  |some i=>match env.cW x with
   |some (.ptr dh p)=>(match env.cW y with
    |none=>none
    |some a=>match sO (ua a)with
     |none=>none
     |some ca=>match σ.get d with
      |some (.slice aV jk xs dS _)=>bif Nat.beq dh d&&Nat.beq jk sz&&Nat.beq dS k&&(ua a).flat&&lT ca&&Nat.beq ca.length i.sz&&Nat.ble (off+i.sz) sz then
        some (.e [d] [] .undef (σ.set d (.slice aV jk zs dS false)),([.bf false xs,.ptr dh p,.agg ca],[]))else none
      |_=>none)
   |_=>none
 |_=>none
mutual
def Q.owns:Q→dg
 |.own d=>[d]
 |.agg cs=>Ci cs
 |.cI cs=>Ci cs
 |.fn _ cs=>Ci cs
 |_=>[]
def Ci:List Q→dg
 |[]=>[]
 |x::r=>x.owns++Ci r
end
def Ij(env:ah)(σ:Y)(r:Q):Op→Option (c7×cZ)
 |.call c=>match JX env c with
  |none=>none
  |some (f,cv,vF)=>match σ.at (Ci cv)with
   |none=>none
   |some rq=>match Ch rq 0 cv with
    |none=>none
    |some dx=>bif r.closed then some (.y rq.ids r,(.fn f vF::dx,[]))else none
 |_=>none
def Io(env:ah)(wF:Nat)(σ σs:Y)(r:Q):Op→Option (c7×cZ)
 |.call c=>match wA env c with
  |none=>none
  |some (f,cv)=>match σ.at (σs.ids++Ci cv)with
   |none=>none
   |some rq=>match Ch rq wF cv with
    |none=>none
    |some dx=>match rq.at σs.ids with
     |none=>none
     |some OV=>bif r.closed&&σs.clean (λd=>!(σs.ids++[]).contains d)then some (.y rq.ids r,(.fn f []::dx,OV))else none
 |_=>none
def Hz(env:ah)(σ:Y)(cS:dg)(r:Q):Op→Option (c7×cZ)
 |.call c=>match wA env c with
  |none=>none
  |some (f,cv)=>match σ.at cS with
   |none=>none
   |some σs=>match sS (Cy 9 σs) cv with
    |none=>none
    |some dx=>bif r.iI then some (.y σs.ids r,(.fn f []::dx,[]))else none
 |_=>none
def Gt(ids:dg)(env:ah)(σ dk:Y)(news:dg)(r:Q)(σ2:Y):Op→Option (c7×cZ)
 |.call c=>match wA env c with
  |none=>none
  |some (f,cv)=>match ue dk.ids σ cv with
   |none=>none
   |some dx=>match σ.at dk.ids with
    |none=>none
    |some TI=>bif news.all (λd=>!ids.contains d&&(σ.get d).isNone)&&(σ.minus dk.ids).clean news.contains&&!r.refs (λd=>!(dk.ids++news).contains d)&&σ2.clean (λd=>!(dk.ids++news).contains d)then
      some (.e (dk.ids++news) news r (σ2++σ.minus dk.ids),(.fn f []::dx,TI))else none
 |_=>none
def Gv(ids:dg)(env:ah)(σ:Y)(cS news:dg)(r:Q)(σ2:Y):Op→Option (c7×cZ)
 |.call c=>match wA env c with
  |none=>none
  |some (f,cv)=>match σ.at cS with
   |none=>none
   |some σs=>match sS (Cy 9 σs) cv with
    |none=>none
    |some dx=>bif news.all (λd=>!ids.contains d&&(σ.get d).isNone)&&σ.clean news.contains&&r.q7&&!r.refs (λd=>!news.contains d)&&σ2.clean (λd=>!news.contains d)then some (.e news news r (σ2++σ),(.fn f []::dx,[]))else none
 |_=>none
def Gl(bP:g4)(ids:dg)(env:ah)(σ:Y)(d2 sz bytes:Nat)(zs:List (List Q)):Op→Option (c7×cZ)
 |.call c=>match c.callee with
  |.builtin b=>(match b with
   |.append=>(match c.args.toList with
    |[s,x]=>(match c.argTypes.toList with
     |[T,ll]=>(match bP.get T with
      |some ⟨_,_,_,.slice E jk UD _⟩=>bif Nat.beq T ll&&Nat.beq jk sz&&Nat.beq UD bytes&&!ids.contains d2 then(match env.cW x with
       |none=>none
       |some nR=>match jG [] σ nR with
        |some (.bf f bx)=>(match env.cW s with
         |some (.own d)=>(match σ.get d with
          |some (.slice aV qw xs k _)=>bif Nat.beq aV E&&Nat.beq qw sz&&(σ.minus [d]).clean [d2].contains then some (.e [d,d2] [d2] (.own d2) ((d2,.slice aV qw zs k false)::σ.minus [d]),([.bf false xs,.bf false bx],[]))else none
          |some (.win aV qw xs)=>bif Nat.beq aV E&&Nat.beq qw sz&&(σ.minus [d]).clean [d2].contains then some (.e [d,d2] [d2] (.own d2) ((d2,.win aV qw zs)::σ.minus [d]),([.bf false xs,.bf false bx],[]))else none
          |_=>none)
         |some .c4=>bif σ.clean [d2].contains then some (.e [d2] [d2] (.own d2) ((d2,.slice E jk zs 0 false)::σ),([.bf false [],.bf false bx],[]))else none
         |some (.bf true xs)=>bif σ.clean [d2].contains&&Nat.blt 0 bx.length then some (.e [d2] [d2] (.own d2) ((d2,.slice E jk zs 0 false)::σ),([.bf false xs,.bf false bx],[]))else none
         |_=>none)
        |_=>none)else none
      |_=>none)
     |_=>none)
    |_=>none)
   |_=>none)
  |_=>none
 |_=>none
def Cj:Q→dg
 |.own d=>[d]
 |_=>[]
def E6(bP:g4)(env:ah)(σ:Y)(sz:Nat)(zs:List (List Q)):Op→Option (c7×cZ)
 |.slice T x lo hi none=>match bP.get T with
  |some ⟨_,_,_,.slice _ jk _ _⟩=>(match env.cW x with
   |none=>none
   |some nR=>match jG [] σ nR with
    |some (.bf f xs)=>(match sV env 0 lo with
     |none=>none
     |some a=>match sV env (xs.length:Int) hi with
      |none=>none
      |some b=>bif Nat.beq jk sz then some (.y (Cj nR) (.bf false zs),([.bf false xs,.int .i64 a,.int .i64 b],[]))else none)
    |_=>none)
  |_=>none
 |_=>none
def B6(bP:g4)(env:ah)(σ:Y)(sz:Nat)(zs:List (List Q)):Op→Option (c7×cZ)
 |.slice T x lo (some hi) (some qu)=>match bP.get T with
  |some ⟨_,_,_,.slice _ jk _ _⟩=>(match env.cW x with
   |none=>none
   |some nR=>match jG [] σ nR with
    |some (.bf f xs)=>(match sV env 0 lo with
     |none=>none
     |some a=>match sV env (xs.length:Int) (some hi)with
      |none=>none
      |some b=>match sV env (xs.length:Int) (some qu)with
       |none=>none
       |some ep=>bif Nat.beq jk sz then some (.y (Cj nR) (.bf true zs),([.bf false xs,.int .i64 a,.int .i64 b,.int .i64 ep],[]))else none)
    |_=>none)
  |_=>none
 |_=>none
def Cw(bP:g4)(ids:dg)(env:ah)(σ:Y)(d2 sz:Nat)(zs:List (List Q)):Op→Option (c7×cZ)
 |.slice T x lo none none=>match bP.get T with
  |some ⟨_,_,_,.slice _ jk _ _⟩=>(match env.cW x with
   |some (.own d)=>(match σ.get d with
    |some (.win aV qw xs)=>(match sV env 0 lo with
     |none=>none
     |some a=>bif Nat.beq jk sz&&Nat.beq qw sz&&!ids.contains d2&&(σ.minus [d]).clean [d2].contains then some (.e [d,d2] [d2] (.own d2) ((d2,.win aV qw zs)::σ.minus [d]),([.bf false xs,.int .i64 a],[]))else none)
    |_=>none)
   |_=>none)
  |_=>none
 |_=>none
def H9(env:ah):Op→Option (c7×cZ)
 |.binOp op _ x y _=>match env.cW x with
  |some (.int k m)=>(match env.cW y with
   |some (.int dS n)=>bif decide (k=dS)then(match op with
    |.quo=>some (.y [] (.int k (k.wrap (m.tdiv n))),([.int .i64 n],[]))
    |.rem=>some (.y [] (.int k (m.tmod n)),([.int .i64 n],[]))
    |_=>none)else none
   |_=>none)
  |_=>none
 |_=>none
def Ir(env:ah):Op→Option (c7×cZ)
 |.binOp op _ x y _=>match env.cW x with
  |some (.int k m)=>(match env.cW y with
   |some (.int _ n)=>(match op with
    |.shl=>some (.y [] (.int k (k.wrap (m*2 ^ min n.toNat k.bits))),([.int .i64 n],[]))
    |.shr=>some (.y [] (.int k (m.fdiv (2 ^ min n.toNat k.bits))),([.int .i64 n],[]))
    |_=>none)
   |_=>none)
  |_=>none
 |_=>none
def F1(bP:g4)(env:ah)(b:UInt8):Op→Option (c7×cZ)
 |.index T x y=>match bP.get T with
  |some ⟨_,_,_,.str⟩=>(match env.cW x with
   |some (.str s)=>(match env.cW y with
    |some (.int _ n)=>some (.y [] (.int .u8 (b.toNat:Int)),([.str s,.int .i64 n],[]))
    |_=>none)
   |_=>none)
  |_=>none
 |_=>none
def HB(bP:g4)(env:ah)(σ:Y)(E:Nat)(k:IntKind)(a:Q)(b:Bool):Op→Option (c7×cZ)
 |.lookup T x y ok=>match bP.get T with
  |some ⟨_,_,_,.map K ss dS⟩=>(match env.cW x with
   |some (.dr d)=>(match env.cW y with
    |some (.int cK n)=>(match σ.get d with
     |some (.map km qE bH)=>bif Nat.beq ss E&&decide (dS=k)&&decide (cK=k)&&Nat.beq km K&&Nat.beq qE ss then some (.y [d] (bif ok then .cI [a,.bool b]else a),([.int .i64 n],[(0,.map 0 0 bH)]))else none
     |_=>none)
    |_=>none)
   |_=>none)
  |_=>none
 |_=>none
def HM(bP:g4)(env:ah)(σ:Y)(k:IntKind)(me:List (Q×Q))(T:Nat)(x y z:Operand):Option (c7×cZ):=match bP.get T with
  |some ⟨_,_,_,.map K ss dS⟩=>(match env.cW x with
   |some (.dr d)=>(match env.cW y with
    |some (.int cK n)=>(match env.cW z with
     |some v=>(match σ.get d with
      |some (.map km qE bH)=>bif decide (dS=k)&&decide (cK=k)&&Nat.beq km K&&Nat.beq qE ss then some (.e [d] [] .undef (σ.set d (.map km qE me)),([.int .i64 n,v],[(0,.map 0 0 bH)]))else none
      |_=>none)
     |_=>none)
    |_=>none)
   |_=>none)
  |_=>none
def MI(bP:g4)(env:ah)(σ:Y)(k:IntKind)(me:List (Q×Q)):Op→Option (c7×cZ)
 |.mapUpdate T x y z=>HM bP env σ k me T x y z
 |.insert T x y z=>HM bP env σ k me T x y z
 |_=>none
def HC(bP:g4)(env:ah)(σ:Y)(k:IntKind)(n:Int):Op→Option (c7×cZ)
 |.call c=>match c.callee with
  |.builtin b=>(match b with
   |.len=>(match c.args.toList with
    |[x]=>(match c.argTypes.toList with
     |[T]=>(match bP.get T with
      |some ⟨_,_,_,.map K ss dS⟩=>(match env.cW x with
       |some (.dr d)=>(match σ.get d with
        |some (.map km qE bH)=>bif decide (dS=k)&&Nat.beq km K&&Nat.beq qE ss then some (.y [d] (.int .i64 n),([],[(0,.map 0 0 bH)]))else none
        |_=>none)
       |_=>none)
      |_=>none)
     |_=>none)
    |_=>none)
   |_=>none)
  |_=>none
 |_=>none
def Iw(env:ah)(neg:Bool)(T:Nat)(r:Bool):Op→Option (c7×cZ)
 |.binOp op aV x y _=>match env.cW x with
  |none=>none
  |some a=>match env.cW y with
   |none=>none
   |some b=>bif a.plain&&b.plain&&Nat.beq aV T then(match op with
    |.eql=>bif neg then none else some (.y [] (.bool r),([a,b],[]))
    |.neq=>bif neg then some (.y [] (.bool r),([a,b],[]))else none
    |_=>none)else none
 |_=>none
def Is(bP:g4)(env:ah)(neg:Bool):Op→Option (c7×cZ)
 |.binOp op T x y _=>match env.cW x with
  |none=>none
  |some a=>match env.cW y with
   |some .c4=>(match bP.get T with
    |some ⟨_,_,_,.slice _ _ _ _⟩=>(match op with
     |.eql=>bif neg then none else some (.y [] (.bool false),([a],[]))
     |.neq=>bif neg then some (.y [] (.bool true),([a],[]))else none
     |_=>none)
    |_=>none)
   |_=>none
 |_=>none
def H2(env:ah)(T aV:Nat)(r:Q):Op→Option (c7×cZ)
 |.convert S O7 x=>match env.cW x with
  |none=>none
  |some a=>bif Nat.beq S T&&Nat.beq O7 aV then some (.y [] r,([a],[]))else none
 |_=>none
def H1(env:ah)(op:BinOp)(T:Nat)(r:Q):Op→Option (c7×cZ)
 |.binOp MN S x y _=>match env.cW x with
  |none=>none
  |some a=>match env.cW y with
   |none=>none
   |some b=>bif decide (MN=op)&&Nat.beq S T then some (.y [] r,([a,b],[]))else none
 |_=>none
def Ck{P:Program}(bP:g4)(ids:dg)(o:Oper)(env:ah)(σ:Y):Hint P→Option (c7×cZ)
 |.Dx=>match K2 bP env σ o.op with
  |some (R,bN)=>some (.y R bN,([],[]))
  |none=>match Nj env σ bP o.op with
   |some s=>some (s,([],[]))
   |none=>none
 |.al d=>match w6 bP ids env d o.op with|some s=>some (s,([],[]))|none=>none
 |.to h _ b _=>match Ck bP ids o env σ h with
  |some (.y R bN,aX)=>some (.y R b,(bN::aX.1,aX.2))
  |_=>none
 |.ix sz _ _ row _=>Hk bP env σ sz row o.op
 |.lo d sz _ _ off row _=>HD bP env σ d sz off row o.op
 |.so d sz _ _ off _ zs _ k _=>It bP env σ d sz off k zs o.op
 |.rf _ _ _ r _ _=>Ij env σ r o.op
 |.ro wF _ σs _ r _ _=>Io env wF σ σs r o.op
 |.le cS _ _ r _ _=>Hz env σ cS r o.op
 |.mA news _ dk _ r σ2 _ _=>Gt ids env σ dk news r σ2 o.op
 |.dl cS news _ _ r σ2 _ _ _=>Gv ids env σ cS news r σ2 o.op
 |.gs _ _ f _=>f ids o.op env σ
 |.ap d2 sz bytes _ _ zs _=>Gl bP ids env σ d2 sz bytes zs o.op
 |.sl sz _ _ _ zs _=>E6 bP env σ sz zs o.op
 |.ws d2 sz _ _ zs _=>Cw bP ids env σ d2 sz zs o.op
 |.qr _ _=>H9 env o.op
 |.sh _ _=>Ir env o.op
 |.is _ _ b _=>F1 bP env b o.op
 |.lk E k _ _ a b _=>HB bP env σ E k a b o.op
 |.va k _ _ _ me _=>MI bP env σ k me o.op
 |.lm k _ n _=>HC bP env σ k n o.op
 |.Ni neg T _ _ r _=>Iw env neg T r o.op
 |.E7 neg _ _=>Is bP env neg o.op
 |.s3 sz _ _ _ zs _=>B6 bP env σ sz zs o.op
 |.pu T aV _ r _=>H2 env T aV r o.op
 |.pb op T _ _ r _=>H1 env op T r o.op
def h5.mono{G:ch}{o:Oper}{ev:Operand→Q}{σ:Y}{M news:dg}{Φ FH:Q→Y→Prop}(h:h5 G o ev σ M news Φ)(aC:∀a s,Φ a s→FH a s):h5 G o ev σ M news FH:=by
 intro cx I β w aZ an hop;have:=h cx I β w aZ an hop;generalize (execOp aZ o).run G.P w=r at this;cases r with
 |halt x w'=>exact this
 |ok n w'=>
  cases n<;>simp only[m3]at this ⊢
  ·obtain⟨a,s,aU,β',q,wo⟩:=this;exact⟨a,s,aU,β',aC _ _ q,wo⟩
  ·obtain⟨a,s,aU,β',q,wo⟩:=this;exact⟨a,s,aU,β',aC _ _ q,wo⟩
  ·exact Calls.mono this λ_ _ ⟨v,he,a,s,aU,β',q,wo⟩=>⟨v,he,a,s,aU,β',aC _ _ q,wo⟩
section
variable {P:Program}{N:Nat}{ids:dg}{bP:g4}{o:Oper}{env:ah}{σ:Y}
def adW(bb:jT P bP){s:c7}(h:Nj env σ bP o.op=some s):fP ⟨P,N,ids⟩ o env σ s:=by
 cases ai:o.op<;>rw[ai]at h<;>simp only[Nj]at h
 case store T x y=>
  split at h
  ·cases h
  ·rename_i i aQ;have hk:=(jF.get bb.tys aQ).ty;split at h
   ·rename_i d p u;split at h
    ·cases h
    ·rename_i a ag;split at h
     ·rename_i aV cs Z;split at h
      ·cases h
      ·rename_i ca xo;generalize U:(a.flat&&_&&_)=eM at h;cases eM with
       |false=>cases h
       |true=>
        simp only[cond_true]at h;simp only[Bool.and_eq_true]at U;split at h
        ·cases h
        ·rename_i ow X;cases h
         exact⟨auS ai (asv u) hk ag Z U.1.1 xo U.1.2 U.2 X,rfl⟩
     ·cases h
   ·cases h
 all_goals cases h
def adX(bb:jT P bP){d:Nat}{s:c7}(h:w6 bP ids env d o.op=some s):fP ⟨P,N,ids⟩ o env σ s:=by
 cases ai:o.op<;>rw[ai]at h
 case alloc T=>
  simp only[w6]at h;split at h
  ·rename_i sz dG zs kd aQ;have hz:=(jF.get bb.tys aQ).aof _ rfl;split at h
   ·cases h
   ·rename_i cs X;cases hi:ids.contains d with
    |true=>rw[hi]at h;cases h
    |false=>rw[hi]at h;cases h;exact⟨hi,b7.alloc ai hz (u3 X) hi⟩
  ·cases h
 case box T x=>
  simp only[w6]at h;split at h
  ·cases h
  ·rename_i a u;split at h
   ·cases h
   ·rename_i cs X;generalize U:(a.flat&&_&&_)=eM at h;cases eM with
    |false=>cases h
    |true=>
     cases h;simp only[Bool.and_eq_true,Bool.not_eq_true']at U;exact⟨U.2,b7.box ai u U.1.1 X U.1.2 U.2⟩
 case buildSlice T len parts=>
  simp only[w6]at h;split at h
  ·rename_i aQ;have hk:=(jF.get bb.tys aQ).kd;simp only[mG]at hk;generalize U:(Nat.beq parts.size len&&_&&_)=eM at h;cases eM with
   |false=>cases h
   |true=>
    simp only[cond_true]at h;simp only[Bool.and_eq_true,Bool.not_eq_true']at U;split at h
    ·cases h
    ·rename_i ps aC;split at h
     ·cases h
     ·rename_i xs bm;cases af:lT xs.flatten with
      |false=>rw[af]at h;cases h
      |true=>
       rw[af]at h;cases h
       exact⟨U.2,(auX ai hk.2.2 (by simpa using U.1.1) (by simpa using U.1.2) (by rw[←N9,as1 aC];exact EG _ bm) af U.2).off⟩
  ·cases h
 case makeMap T r=>
  cases r with
  |some r=>simp only[w6]at h;cases h
  |none=>
   simp only[w6]at h;split at h
   ·rename_i aQ;cases hi:ids.contains d with
    |true=>rw[hi]at h;cases h
    |false=>rw[hi]at h;cases h;exact⟨hi,bK.makeMap ai hi⟩
   ·cases h
 all_goals (simp only[w6]at h;cases h)
def atH{G:ch}{T E sz:Nat}{x y:Operand}{k:IntKind}{i:Int}{f:Bool}{ev:Operand→Q}(xs:List (List Q))(h:o.op=.indexAddr T x y)(u:ev x=.bf f xs)(ag:ev y=.int k i)(aQ:kV G.P T E sz)
  (aH:∀e∈xs,e.length=sz) (hi:0≤i∧i<xs.length):Yields G o ev σ [] [] (.fO (el xs i)):=
 .pure λaz cx I β w aZ cf an hop=>by
  have h1:=hop x (by simp[h,Op.operands]);rw[u]at h1
  have D:=hop y (by simp[h,Op.operands]);rw[ag]at D;have D:=jW D
  simp only[au,bc]at h1;obtain⟨a,c,h1,aj,a1,_,bU⟩:=h1;have bL:i.toNat<xs.length:=by omega
  rcases bU with bU|⟨b,p,rfl,bU⟩
  ·subst bU;simp at bL
  ·have iz:=Xc (sz:=sz) _ p i.toNat aH bU bL;have nc:xs.getD i.toNat []=el xs i:=by
    simp[getD_eq_getElem?_getD,bL,el]
   rw[nc]at iz;refine⟨.pointer (some ⟨b,p+i.toNat*sz,none⟩),?_,by simp only[au,bc];exact⟨b,_,rfl,iz⟩⟩;have aJ:∀w,(underlying T).run G.P w=.ok (.slice E) w:=λw=>by simp[underlying,program,Sem.run,aQ.gY]
   simp[execOp,h,h1,D,Instr.indexAt,asIntOf,aJ,hi,aQ.size,mc]
def adY(bb:jT P bP){sz:Nat}{xs:List (List Q)}{i:Int}{row:List Q}(b4:wZ sz xs i row){s:c7}{aX:cZ}(h:Hk bP env σ sz row o.op=some (s,aX))(he:aX=([.bf false xs,.int .i64 i],[])):fP ⟨P,N,ids⟩ o env σ s:=by
 obtain⟨cQ,dM,eH,i6⟩:=b4;cases ai:o.op<;>rw[ai]at h
 case indexAddr T x y=>
  simp only[Hk]at h;split at h
  ·rename_i jk _ _ aQ;have hk:=(jF.get bb.tys aQ).kd;simp only[mG]at hk;split at h
   ·rename_i k G7 ag;split at h
    ·rename_i f l6 u;split at h
     ·cases h
     ·rename_i r aB;cases U:Nat.beq jk sz with
      |false=>rw[U]at h;cases h
      |true=>
       rw[U]at h;cases h
       simp only[Prod.mk.injEq,List.cons.injEq,Q.bf.injEq,Q.int.injEq,and_true,true_and]at he;obtain⟨rfl,rfl⟩:=he;have:=Nat.eq_of_beq_eq_true U;subst this;simp only[fP];rw[←u3 aB,←i6];exact atH _ ai (asv u) (asv ag) hk.1 cQ ⟨dM,eH⟩
    ·rename_i d u;split at h
     ·rename_i apf qw ass aqU aqc Z;cases U:(Nat.beq jk sz&&Nat.beq qw sz)with
      |false=>rw[U]at h;cases h
      |true=>
       rw[U]at h;cases h
       rw[Bool.and_eq_true]at U;simp only[Prod.mk.injEq,List.cons.injEq,Q.bf.injEq,Q.int.injEq,and_true,true_and]at he;obtain⟨rfl,rfl⟩:=he;have:=Nat.eq_of_beq_eq_true U.1;subst this;have:=Nat.eq_of_beq_eq_true U.2;subst this;exact atZ _ id ai (asv u) (asv ag) (by rw[zQ];exact Z) hk.1 ⟨dM,eH⟩
     ·rename_i l6 Z;split at h
      ·cases h
      ·rename_i r aB;cases U:Nat.beq jk sz with
       |false=>rw[U]at h;cases h
       |true=>
        rw[U]at h;cases h
        simp only[Prod.mk.injEq,List.cons.injEq,Q.bf.injEq,Q.int.injEq,and_true,true_and]at he;obtain⟨rfl,rfl⟩:=he;have:=Nat.eq_of_beq_eq_true U;subst this;simp only[fP];rw[←u3 aB,←i6];exact Yields.win Z (atH _ ai (PI (asv u)) (Ys (asv ag)) hk.1 cQ ⟨dM,eH⟩)
     ·cases h
    ·cases h
   ·cases h
  ·cases h
 all_goals (simp only[Hk]at h;cases h)
def adZ(bb:jT P bP){d sz off:Nat}{xs:List (List Q)}{i:Int}{row:List Q}(b4:wZ sz xs i row){s:c7}{aX:cZ}(h:HD bP env σ d sz off row o.op=some (s,aX))(he:aX=([.bf false xs,.ptr d (i.toNat*sz+off)],[])):fP ⟨P,N,ids⟩ o env σ s:=by
 obtain⟨cQ,dM,eH,i6⟩:=b4;cases ai:o.op<;>rw[ai]at h
 case load T x=>
  simp only[HD]at h;split at h
  ·cases h
  ·rename_i amy aQ;have hk:=(jF.get bb.tys aQ).ty;split at h
   ·rename_i dh p u;split at h
    ·rename_i aV jk l6 k c5 Z;generalize U:(Nat.beq dh d&&_&&_&&_)=eM at h;cases eM with
     |false=>cases h
     |true=>
      simp only[cond_true]at h;simp only[Bool.and_eq_true]at U;obtain⟨⟨⟨dO,ep⟩,hg⟩,kM⟩:=U;split at h
      ·cases h
      ·rename_i a ay;cases h;simp only[Prod.mk.injEq,List.cons.injEq,Q.bf.injEq,Q.ptr.injEq,and_true,true_and]at he;obtain⟨rfl,rfl,rfl⟩:=he;have:=Nat.eq_of_beq_eq_true ep;subst this;exact at8 (i:=i) _ id ai (asv u) (by rw[zQ];exact Z) rfl ⟨dM,eH⟩ hk hg kM (by rw[id_eq,i6];exact ay)
    ·cases h
   ·cases h
 all_goals (simp only[HD]at h;cases h)
def ad0(bb:jT P bP){d sz off k:Nat}{xs zs:List (List Q)}{i:Int}{ca:List Q}(b4:FM sz xs i off ca zs)(uR:(k:Int)≤i){s:c7}{aX:cZ}(h:It bP env σ d sz off k zs o.op=some (s,aX))(he:aX=([.bf false xs,.ptr d (i.toNat*sz+off),.agg ca],[])):fP ⟨P,N,ids⟩ o env σ s:=by
 obtain⟨⟨cQ,dM,eH,_⟩,i6⟩:=b4;cases ai:o.op<;>rw[ai]at h
 case store T x y=>
  simp only[It]at h;split at h
  ·cases h
  ·rename_i amy aQ;have hk:=(jF.get bb.tys aQ).ty;split at h
   ·rename_i dh p u;split at h
    ·cases h
    ·rename_i a ag;split at h
     ·cases h
     ·rename_i ait xo;split at h
      ·rename_i aV jk l6 dS c5 Z;generalize U:(Nat.beq dh d&&_&&_&&_&&_&&_&&_)=eM at h;cases eM with
       |false=>cases h
       |true=>
        simp only[cond_true]at h;simp only[Bool.and_eq_true]at U;obtain⟨⟨⟨⟨⟨⟨dO,ep⟩,hg⟩,kM⟩,vC⟩,aim⟩,ain⟩:=U;cases h;simp only[Prod.mk.injEq,List.cons.injEq,Q.bf.injEq,Q.ptr.injEq,Q.agg.injEq,and_true,true_and]at he;obtain⟨rfl,⟨rfl,rfl⟩,rfl⟩:=he;have:=Nat.eq_of_beq_eq_true ep;subst this;have:=Nat.eq_of_beq_eq_true hg;subst this;have eX:=auC (G:=⟨P,N,ids⟩) (i:=i) (ev:=λx=>ua (env.ev x)) l6 id (iZ (el l6 i) off ait) ai (show ua (env.ev x)=_ by rw[asv u];rfl) (show ua (env.ev y)=_ by rw[asv ag]) (by rw[zQ];exact Z) rfl ⟨dM,eH⟩ uR hk kM xo vC aim ain rfl;rw[zQ,←i6]at eX;exact⟨eX.off,rfl⟩
      ·cases h
   ·cases h
 all_goals (simp only[It]at h;cases h)
def ad1{wF:Nat}{f:FuncId}{σs:Y}{dx:List Q}{r:Q}(b4:dT P f σs dx r)(af:c8 P f){s:c7}{aX:cZ}(h:Io env wF σ σs r o.op=some (s,aX))(he:aX=(.fn f []::dx,σs)):fP ⟨P,N,ids⟩ o env σ s:=by
 cases ai:o.op<;>rw[ai]at h
 case call c=>
  simp only[Io]at h;split at h
  ·cases h
  ·rename_i oS cv ay;obtain⟨gO,args,k,aO,ps,rfl,bm,aC,rfl⟩:=BO ay;split at h
   ·cases h
   ·rename_i rq pJ;split at h
    ·cases h
    ·rename_i Dl X;split at h
     ·cases h
     ·rename_i OV ajy;generalize U:(r.closed&&_)=eM at h;cases eM with
      |false=>cases h
      |true=>
       rw[Bool.and_eq_true]at U;cases h;simp only[Prod.mk.injEq,List.cons.injEq,Q.fn.injEq,and_true]at he;obtain⟨⟨rfl,rfl⟩,rfl⟩:=he;exact b7.call (G:=⟨P,N,ids⟩) (σs:=rq) (dk:=OV) ai bm af.h b4 aC (Ob X) (asR pJ).1 (asR ajy).1 U.1 U.2
 all_goals (simp only[Io]at h;cases h)
def ad2{f:FuncId}{uE dx:List Q}{r:Q}(b4:dT P f [] (dx++uE) r)(af:c8 P f){s:c7}{aX:cZ}(h:Ij env σ r o.op=some (s,aX))(he:aX=(.fn f uE::dx,[])):fP ⟨P,N,ids⟩ o env σ s:=by
 cases ai:o.op<;>rw[ai]at h
 case call c=>
  simp only[Ij]at h;split at h
  ·cases h
  ·rename_i oS cv vF ay;obtain⟨gO,args,k,rfl,bm,aC⟩:=Zc ay;split at h
   ·cases h
   ·rename_i rq pJ;split at h
    ·cases h
    ·rename_i Dl X;cases U:r.closed with
     |false=>rw[U]at h;cases h
     |true=>
      rw[U]at h;cases h;simp only[Prod.mk.injEq,List.cons.injEq,Q.fn.injEq,and_true]at he;obtain⟨⟨rfl,rfl⟩,rfl⟩:=he;exact aub (G:=⟨P,N,ids⟩) (σs:=rq) ai bm af.h (asR pJ).1.mem (by rw[asX aC];exact Ob X) b4 U
 all_goals (simp only[Ij]at h;cases h)
def ad3{cS:dg}{f:FuncId}{dx:List Q}{r:Q}(b4:dT P f [] dx r)(af:c8 P f){s:c7}{aX:cZ}(h:Hz env σ cS r o.op=some (s,aX))(he:aX=(.fn f []::dx,[])):fP ⟨P,N,ids⟩ o env σ s:=by
 cases ai:o.op<;>rw[ai]at h
 case call c=>
  simp only[Hz]at h;split at h
  ·cases h
  ·rename_i oS cv ay;obtain⟨gO,args,k,aO,ps,rfl,bm,aC,rfl⟩:=BO ay;split at h
   ·cases h
   ·rename_i rq pJ;split at h
    ·cases h
    ·rename_i Dl X;cases U:r.iI with
     |false=>rw[U]at h;cases h
     |true=>
      rw[U]at h;cases h;simp only[Prod.mk.injEq,List.cons.injEq,Q.fn.injEq,and_true]at he;obtain⟨rfl,rfl⟩:=he;exact auo (G:=⟨P,N,ids⟩) (σs:=rq) 9 ai bm af.h b4 aC X (asR pJ).1 U
 all_goals (simp only[Hz]at h;cases h)
def ad4{news:dg}{f:FuncId}{dk σ2:Y}{dx:List Q}{r:Q}(b4:eP P f dk dx (λa az=>a=r∧az=σ2))(af:c8 P f){s:c7}{aX:cZ}(h:Gt ids env σ dk news r σ2 o.op=some (s,aX))(he:aX=(.fn f []::dx,dk)):fP ⟨P,N,ids⟩ o env σ s:=by
 cases ai:o.op<;>rw[ai]at h
 case call c=>
  simp only[Gt]at h;split at h
  ·cases h
  ·rename_i oS cv ay;obtain⟨gO,args,k,aO,ps,rfl,bm,aC,rfl⟩:=BO ay;split at h
   ·cases h
   ·rename_i Dl X;split at h
    ·cases h
    ·rename_i TI pJ;generalize U:(news.all _&&_&&_&&_)=eM at h;cases eM with
     |false=>cases h
     |true=>
      simp only[Bool.and_eq_true,Bool.not_eq_true']at U;obtain⟨⟨⟨dO,ep⟩,hg⟩,kM⟩:=U;cases h;simp only[Prod.mk.injEq,List.cons.injEq,Q.fn.injEq,and_true]at he;obtain⟨⟨rfl,rfl⟩,rfl⟩:=he;refine⟨?_,by rw[List.all_eq_true]at dO ⊢;exact λd Z=>((Bool.and_eq_true _ _).mp (dO d Z)).1⟩;have eX:=atn (G:=⟨P,N,ids⟩) (σ:=σ) news ai bm af.h b4 aC (zH X) (asR pJ).1 dO ep (λr' aoL cA=>by obtain⟨rfl,rfl⟩:=cA;exact⟨hg,kM⟩);exact eX.mono λa s ⟨aoL,⟨h1,D⟩,aj⟩=>⟨h1,by rw[aj,D]⟩
 all_goals (simp only[Gt]at h;cases h)
def ad5{cS news:dg}{f:FuncId}{σ2:Y}{dx:List Q}{r:Q}(b4:eP P f [] dx (λa az=>a=r∧az=σ2))(af:c8 P f)(AQ:x8 σ2){s:c7}{aX:cZ}(h:Gv ids env σ cS news r σ2 o.op=some (s,aX))(he:aX=(.fn f []::dx,[])):fP ⟨P,N,ids⟩ o env σ s:=by
 cases ai:o.op<;>rw[ai]at h
 case call c=>
  simp only[Gv]at h;split at h
  ·cases h
  ·rename_i oS cv ay;obtain⟨gO,args,k,aO,ps,rfl,bm,aC,rfl⟩:=BO ay;split at h
   ·cases h
   ·rename_i rq pJ;split at h
    ·cases h
    ·rename_i Dl X;generalize U:(news.all _&&_&&_&&_&&_)=eM at h;cases eM with
     |false=>cases h
     |true=>
      simp only[Bool.and_eq_true,Bool.not_eq_true']at U;obtain⟨⟨⟨⟨dO,ep⟩,hg⟩,kM⟩,vC⟩:=U;cases h;simp only[Prod.mk.injEq,List.cons.injEq,Q.fn.injEq,and_true]at he;obtain⟨rfl,rfl⟩:=he;exact⟨au6 (G:=⟨P,N,ids⟩) (σs:=rq) 9 news ai bm af.h b4 aC X (asR pJ).1 dO ep hg kM vC AQ,by rw[List.all_eq_true]at dO ⊢;exact λd Z=>((Bool.and_eq_true _ _).mp (dO d Z)).1⟩
 all_goals (simp only[Gv]at h;cases h)
def adp(bb:jT P bP){d2 sz bytes:Nat}{xs bx zs:List (List Q)}(b4:Ap sz bytes xs bx zs){s:c7}{aX:cZ}(h:Gl bP ids env σ d2 sz bytes zs o.op=some (s,aX))(he:aX=([.bf false xs,.bf false bx],[])):fP ⟨P,N,ids⟩ o env σ s:=by
 obtain⟨BS,cQ,dM,eH,i6,pl⟩:=b4;cases ai:o.op<;>rw[ai]at h
 case call c=>
  obtain⟨cl,args,tys⟩:=c;simp only[Gl]at h;split at h
  ·split at h
   ·split at h
    ·rename_i kk l4 lZ;have:args=#[kk,l4]:=Array.toList_inj.1 (by simpa using lZ);subst this;split at h
     ·rename_i T ll yQ;have:tys=#[T,ll]:=Array.toList_inj.1 (by simpa using yQ);subst this;split at h
      ·rename_i E jk UD ast aQ;have hk:=(jF.get bb.tys aQ).kd;simp only[mG]at hk;generalize U:(Nat.beq T ll&&_&&_&&_)=eM at h;cases eM with
       |false=>cases h
       |true=>
        simp only[cond_true]at h;simp only[Bool.and_eq_true,Bool.not_eq_true']at U;obtain⟨⟨⟨dO,ep⟩,hg⟩,kM⟩:=U;have:=Nat.eq_of_beq_eq_true dO;subst this;have:=Nat.eq_of_beq_eq_true ep;subst this;have:=Nat.eq_of_beq_eq_true hg;subst this;split at h
        ·cases h
        ·rename_i nR u;split at h
         ·rename_i f Ou X;have uW:iw σ (env.ev l4) (.bf f Ou):=by rw[asv u];exact tX X
          split at h
          ·rename_i d lY;split at h
           ·rename_i aV qw l6 k c5 Z;generalize eS:(Nat.beq aV E&&_&&_)=eM at h;cases eM with
            |false=>cases h
            |true=>
             simp only[cond_true]at h;simp only[Bool.and_eq_true]at eS;obtain⟨⟨bl,b2⟩,c9⟩:=eS;have:=Nat.eq_of_beq_eq_true bl;subst this;have:=Nat.eq_of_beq_eq_true b2;subst this;cases h;simp only[Prod.mk.injEq,List.cons.injEq,Q.bf.injEq,and_true,true_and]at he;obtain⟨rfl,rfl⟩:=he;refine⟨?_,by simpa using kM⟩;rw[←BS];exact ej.append (G:=⟨P,N,ids⟩) ai (asv lY) Z uW hk.2.1 rfl dM eH i6 pl kM c9
           ·rename_i aV qw l6 Z;generalize eS:(Nat.beq aV E&&_&&_)=eM at h;cases eM with
            |false=>cases h
            |true=>
             simp only[cond_true]at h;simp only[Bool.and_eq_true]at eS;obtain⟨⟨bl,b2⟩,c9⟩:=eS;have:=Nat.eq_of_beq_eq_true bl;subst this;have:=Nat.eq_of_beq_eq_true b2;subst this;cases h;simp only[Prod.mk.injEq,List.cons.injEq,Q.bf.injEq,and_true,true_and]at he;obtain⟨rfl,rfl⟩:=he;refine⟨?_,by simpa using kM⟩;rw[←BS];exact auz (G:=⟨P,N,ids⟩) ai (asv lY) Z uW hk.2.1 rfl dM eH i6 pl kM c9
           ·cases h
          ·rename_i lY;generalize eS:(Y.clean _ _)=eM at h;cases eM with
           |false=>cases h
           |true=>
            cases h;simp only[Prod.mk.injEq,List.cons.injEq,Q.bf.injEq,and_true,true_and]at he;obtain⟨rfl,rfl⟩:=he;refine⟨?_,by simpa using kM⟩;rw[←BS];exact att (G:=⟨P,N,ids⟩) ai (.inl ⟨asv lY,rfl⟩) uW hk.2.1 cQ dM eH i6 pl kM eS
          ·rename_i l6 lY;generalize eS:(Y.clean _ _&&_)=eM at h;cases eM with
           |false=>cases h
           |true=>
            cases h;rw[Bool.and_eq_true]at eS;simp only[Prod.mk.injEq,List.cons.injEq,Q.bf.injEq,and_true,true_and]at he;obtain⟨rfl,rfl⟩:=he;refine⟨?_,by simpa using kM⟩;rw[←BS];exact att (G:=⟨P,N,ids⟩) ai (.inr ⟨asv lY,(Iff.of_eq Nat.blt_eq).1 eS.2⟩) uW hk.2.1 cQ dM eH i6 pl kM eS.1
          ·cases h
         ·cases h
      ·cases h
     ·cases h
    ·cases h
   ·cases h
  ·cases h
 all_goals (simp only[Gl]at h;cases h)
def adq(bb:jT P bP){d2 sz:Nat}{xs zs:List (List Q)}{a:Int}(b4:td sz xs a xs.length zs){s:c7}{aX:cZ}(h:Cw bP ids env σ d2 sz zs o.op=some (s,aX))(he:aX=([.bf false xs,.int .i64 a],[])):fP ⟨P,N,ids⟩ o env σ s:=by
 obtain⟨cQ,dM,eH⟩:=b4;cases ai:o.op<;>rw[ai]at h
 case slice T x lo hi qu=>
  cases hi with
  |some m=>cases qu<;>simp only[Cw]at h<;>cases h
  |none=>
  cases qu with
  |some m=>simp only[Cw]at h;cases h
  |none=>
   simp only[Cw]at h;split at h
   ·rename_i jk _ _ aQ;have hk:=(jF.get bb.tys aQ).kd;simp only[mG]at hk;split at h
    ·rename_i d u;split at h
     ·rename_i aV qw l6 Z;split at h
      ·cases h
      ·rename_i gE ay;generalize U:(Nat.beq jk sz&&_&&_&&_)=eM at h;cases eM with
       |false=>cases h
       |true=>
        simp only[cond_true]at h;simp only[Bool.and_eq_true,Bool.not_eq_true']at U;obtain⟨⟨⟨dO,ep⟩,hg⟩,kM⟩:=U;have:=Nat.eq_of_beq_eq_true dO;subst this;have:=Nat.eq_of_beq_eq_true ep;subst this;cases h;simp only[Prod.mk.injEq,List.cons.injEq,Q.bf.injEq,Q.int.injEq,and_true,true_and]at he;obtain⟨rfl,rfl⟩:=he;obtain⟨ak,ar⟩:=OQ ay;refine⟨?_,by simpa using hg⟩;have eX:=auD (G:=⟨P,N,ids⟩) (d2:=d2) ai (asv u) Z hk.1 ak (by rw[ar];exact⟨dM.1,dM.2.1⟩) hg kM;rw[ar]at eX;rw[←eH];simpa using eX
     ·cases h
    ·cases h
   ·cases h
 all_goals (simp only[Cw]at h;cases h)
def adr(bb:jT P bP){sz:Nat}{xs zs:List (List Q)}{a b:Int}(b4:td sz xs a b zs){s:c7}{aX:cZ}(h:E6 bP env σ sz zs o.op=some (s,aX))(he:aX=([.bf false xs,.int .i64 a,.int .i64 b],[])):fP ⟨P,N,ids⟩ o env σ s:=by
 obtain⟨cQ,dM,eH⟩:=b4;cases ai:o.op<;>rw[ai]at h
 case slice T x lo hi qu=>
  cases qu with
  |some m=>simp only[E6]at h;cases h
  |none=>
   simp only[E6]at h;split at h
   ·rename_i jk _ _ aQ;have hk:=(jF.get bb.tys aQ).kd;simp only[mG]at hk;split at h
    ·cases h
    ·rename_i nR u;split at h
     ·rename_i f l6 X;split at h
      ·cases h
      ·rename_i gE ay;split at h
       ·cases h
       ·rename_i aP ha;cases U:Nat.beq jk sz with
        |false=>rw[U]at h;cases h
        |true=>
         rw[U]at h;cases h
         simp only[Prod.mk.injEq,List.cons.injEq,Q.bf.injEq,Q.int.injEq,and_true,true_and]at he;obtain⟨rfl,rfl,rfl⟩:=he;have:=Nat.eq_of_beq_eq_true U;subst this;obtain⟨ak,ar⟩:=OQ ay;obtain⟨aM,aK⟩:=OR ha
         have hV:=bK.slice (G:=⟨P,N,ids⟩) (σ:=σ) ai (by rw[asv u];exact tX X) hk.1 cQ ak aM (by rw[ar,aK];exact dM) (Cj nR) (λaz cf=>by
          rw[asv u];have:jG [] az nR=some (.bf f l6):=by
           cases nR
           case own d=>simp only[jG]at X ⊢;rw[cf _ (by simp[Cj])];exact X
           case bf b l=>cases b<;>exact X
           case dr d=>simp only[jG]at X;split at X<;>first|cases X|(split at X<;>cases X)
           case agg l=>simp only[jG]at X;split at X<;>cases X
           case cI l=>simp only[jG]at X;split at X<;>cases X
           case fn f l=>simp only[jG]at X;split at X<;>cases X
           all_goals exact X
          exact tX this)
         rw[ar,aK,eH]at hV;exact hV
     ·cases h
   ·cases h
 all_goals (simp only[E6]at h;cases h)
def ads{n:Int}(b4:n≠0){s:c7}{aX:cZ}(h:H9 env o.op=some (s,aX))(he:aX=([.int .i64 n],[])):fP ⟨P,N,ids⟩ o env σ s:=by
 cases ai:o.op<;>rw[ai]at h
 case binOp op T x y aV=>
  simp only[H9]at h;split at h
  ·rename_i k m u;split at h
   ·rename_i dS iE ag;cases y2:decide (k=dS)with
    |false=>rw[y2]at h;cases h
    |true=>
     rw[y2]at h;simp only[cond_true]at h;have:=of_decide_eq_true y2;subst this;split at h
     ·cases h;simp only[Prod.mk.injEq,List.cons.injEq,Q.int.injEq,and_true,true_and]at he;subst he;exact aug ai (asv u) (asv ag) b4
     ·cases h;simp only[Prod.mk.injEq,List.cons.injEq,Q.int.injEq,and_true,true_and]at he;subst he;exact bK.rem ai (asv u) (asv ag) b4
     ·cases h
   ·cases h
  ·cases h
 all_goals (simp only[H9]at h;cases h)
def adt{n:Int}(b4:0≤n){s:c7}{aX:cZ}(h:Ir env o.op=some (s,aX))(he:aX=([.int .i64 n],[])):fP ⟨P,N,ids⟩ o env σ s:=by
 cases ai:o.op<;>rw[ai]at h
 case binOp op T x y aV=>
  simp only[Ir]at h;split at h
  ·rename_i k m u;split at h
   ·rename_i dS iE ag;split at h
    ·cases h;simp only[Prod.mk.injEq,List.cons.injEq,Q.int.injEq,and_true,true_and]at he;subst he;exact bK.shift (op:=.shl) (.inl rfl) ai (asv u) (asv ag) b4
    ·cases h;simp only[Prod.mk.injEq,List.cons.injEq,Q.int.injEq,and_true,true_and]at he;subst he;exact bK.shift (op:=.shr) (.inr rfl) ai (asv u) (asv ag) b4
    ·cases h
   ·cases h
  ·cases h
 all_goals (simp only[Ir]at h;cases h)
def acp(bb:jT P bP){kk:ByteArray}{n:Int}{b:UInt8}(b4:0≤n∧kk[n.toNat]?=some b){s:c7}{aX:cZ}(h:F1 bP env b o.op=some (s,aX))(he:aX=([.str kk,.int .i64 n],[])):fP ⟨P,N,ids⟩ o env σ s:=by
 cases ai:o.op<;>rw[ai]at h
 case index T x y=>
  simp only[F1]at h;split at h
  ·rename_i aQ;have hk:=(jF.get bb.tys aQ).kd;simp only[mG]at hk;split at h
   ·rename_i cO u;split at h
    ·rename_i k iE ag;cases h;simp only[Prod.mk.injEq,List.cons.injEq,Q.str.injEq,Q.int.injEq,and_true,true_and]at he;obtain⟨rfl,rfl⟩:=he;exact atY ai (asv u) (asv ag) hk b4.1 b4.2
    ·cases h
   ·cases h
  ·cases h
 all_goals (simp only[F1]at h;cases h)
def adu(bb:jT P bP){E:Nat}{k:IntKind}{bH:List (Q×Q)}{n:Int}{a:Q}{b:Bool}(b4:FK P E k bH n a b){s:c7}{aX:cZ}(h:HB bP env σ E k a b o.op=some (s,aX))(he:aX=([.int .i64 n],[(0,.map 0 0 bH)])):fP ⟨P,N,ids⟩ o env σ s:=by
 obtain⟨α,l,enc,z,rfl,rfl,rfl,hz⟩:=b4;cases ai:o.op<;>rw[ai]at h
 case lookup T x y ok=>
  simp only[HB]at h;split at h
  ·rename_i K ss dS aQ;have hk:=(jF.get bb.tys aQ).kd;simp only[mG]at hk;split at h
   ·rename_i d u;split at h
    ·rename_i cK iE ag;split at h
     ·rename_i km qE me Z;generalize U:(Nat.beq ss E&&_&&_&&_&&_)=eM at h;cases eM with
      |false=>cases h
      |true=>
       simp only[Bool.and_eq_true]at U;obtain⟨⟨⟨⟨dO,ep⟩,hg⟩,kM⟩,vC⟩:=U;have:=Nat.eq_of_beq_eq_true dO;subst this;have:=of_decide_eq_true ep;subst this;have:=of_decide_eq_true hg;subst this;have:=Nat.eq_of_beq_eq_true kM;subst this;have:=Nat.eq_of_beq_eq_true vC;subst this;cases h;simp only[Prod.mk.injEq,List.cons.injEq,Q.int.injEq,cc.map.injEq,and_true,true_and]at he;obtain⟨rfl,rfl⟩:=he;exact bK.lookup l enc z ai (asv u) (asv ag) Z hk hz
     ·cases h
    ·cases h
   ·cases h
  ·cases h
 all_goals (simp only[HB]at h;cases h)
def RV(bb:jT P bP){k:IntKind}{bH me:List (Q×Q)}{n:Int}{v:Q}(b4:CY k bH n v me){T:Nat}{x y z:Operand}(ai:o.op=.mapUpdate T x y z∨o.op=.insert T x y z){s:c7}{aX:cZ}(h:HM bP env σ k me T x y z=some (s,aX))(he:aX=([.int .i64 n,v],[(0,.map 0 0 bH)])):fP ⟨P,N,ids⟩ o env σ s:=by
 obtain⟨α,l,enc,q,rfl,rfl,af,rfl⟩:=b4;simp only[HM]at h;split at h
 ·rename_i K ss dS aQ;have hk:=(jF.get bb.tys aQ).kd;simp only[mG]at hk;split at h
  ·rename_i d u;split at h
   ·rename_i cK iE ag;split at h
    ·rename_i dF hz;split at h
     ·rename_i km qE me Z;generalize U:(decide (dS=k)&&_&&_&&_)=eM at h;cases eM with
      |false=>cases h
      |true=>
       simp only[Bool.and_eq_true]at U;obtain⟨⟨⟨ep,hg⟩,kM⟩,vC⟩:=U;have:=of_decide_eq_true ep;subst this;have:=of_decide_eq_true hg;subst this;have:=Nat.eq_of_beq_eq_true kM;subst this;have:=Nat.eq_of_beq_eq_true vC;subst this;cases h;simp only[Prod.mk.injEq,List.cons.injEq,Q.int.injEq,cc.map.injEq,and_true,true_and]at he;obtain⟨⟨rfl,rfl⟩,rfl⟩:=he;exact⟨ej.mapUpdate l enc q ai (asv u) (asv ag) (asv hz) af Z hk,rfl⟩
     ·cases h
    ·cases h
   ·cases h
  ·cases h
 ·cases h
def adv(bb:jT P bP){k:IntKind}{bH me:List (Q×Q)}{n:Int}{v:Q}(b4:CY k bH n v me){s:c7}{aX:cZ}(h:MI bP env σ k me o.op=some (s,aX))(he:aX=([.int .i64 n,v],[(0,.map 0 0 bH)])):fP ⟨P,N,ids⟩ o env σ s:=by
 cases ai:o.op<;>rw[ai]at h
 case mapUpdate T x y z=>exact RV bb b4 (.inl ai) h he
 case insert T x y z=>exact RV bb b4 (.inr ai) h he
 all_goals (simp only[MI]at h;cases h)
def adw(bb:jT P bP){k:IntKind}{bH:List (Q×Q)}{n:Int}(b4:FL k bH n){s:c7}{aX:cZ}(h:HC bP env σ k n o.op=some (s,aX))(he:aX=([],[(0,.map 0 0 bH)])):fP ⟨P,N,ids⟩ o env σ s:=by
 obtain⟨α,l,enc,rfl,rfl⟩:=b4;cases ai:o.op<;>rw[ai]at h
 case call c=>
  obtain⟨cl,args,tys⟩:=c;simp only[HC]at h;split at h
  ·split at h
   ·split at h
    ·rename_i x lZ;have:args=#[x]:=Array.toList_inj.1 (by simpa using lZ);subst this;split at h
     ·rename_i T yQ;have:tys=#[T]:=Array.toList_inj.1 (by simpa using yQ);subst this;split at h
      ·rename_i K ss dS aQ;have hk:=(jF.get bb.tys aQ).kd;simp only[mG]at hk;split at h
       ·rename_i d u;split at h
        ·rename_i km qE me Z;generalize U:(decide (dS=k)&&_&&_)=eM at h;cases eM with
         |false=>cases h
         |true=>
          simp only[Bool.and_eq_true]at U;obtain⟨⟨ep,kM⟩,vC⟩:=U;have:=of_decide_eq_true ep;subst this;have:=Nat.eq_of_beq_eq_true kM;subst this;have:=Nat.eq_of_beq_eq_true vC;subst this;cases h;simp only[Prod.mk.injEq,List.cons.injEq,cc.map.injEq,and_true,true_and]at he;subst he;exact auh l enc ai rfl (asv u) Z hk.gY
        ·cases h
       ·cases h
      ·cases h
     ·cases h
    ·cases h
   ·cases h
  ·cases h
 all_goals (simp only[HC]at h;cases h)
def adx{neg:Bool}{T:Nat}{a b:Q}{r:Bool}(b4:∀(x y:Operand) w,(do eqGuard (bif neg then .neq else .eql) T x y (valOf a) (valOf b);binOp (bif neg then .neq else .eql) T (valOf a) (valOf b):Sem Value).run P w=.ok (.bool r) w)
  {s:c7} {aX:cZ} (h:Iw env neg T r o.op=some (s,aX)) (he:aX=([a,b],[])):fP ⟨P,N,ids⟩ o env σ s:=by
 cases ai:o.op<;>rw[ai]at h
 case binOp op aV x y ll=>
  simp only[Iw]at h;split at h
  ·cases h
  ·rename_i gE u;split at h
   ·cases h
   ·rename_i aP ag;generalize U:(gE.plain&&_&&_)=eM at h;cases eM with
    |false=>cases h
    |true=>
     simp only[cond_true]at h;simp only[Bool.and_eq_true]at U;have:=Nat.eq_of_beq_eq_true U.2;subst this;split at h
     ·cases neg with
      |true=>cases h
      |false=>
       cases h;simp only[Prod.mk.injEq,List.cons.injEq,and_true]at he;obtain⟨rfl,rfl⟩:=he;exact auf ai (asv u) (asv ag) U.1.1 U.1.2 (b4 x y)
     ·cases neg with
      |false=>cases h
      |true=>
       cases h;simp only[Prod.mk.injEq,List.cons.injEq,and_true]at he;obtain⟨rfl,rfl⟩:=he;exact aup ai (asv u) (asv ag) U.1.1 U.1.2 (b4 x y)
     ·cases h
 all_goals (simp only[Iw]at h;cases h)
def ady{T aV:Nat}{a r:Q}(b4:∀(o:Oper) (N:Nat) (ids:dg) (ev:Operand→Q) (σ:Y) (x:Operand),o.op=.convert T aV x→ev x=a→Yields ⟨P,N,ids⟩ o ev σ [] [] r){s:c7}{aX:cZ}(h:H2 env T aV r o.op=some (s,aX))(he:aX=([a],[])):fP ⟨P,N,ids⟩ o env σ s:=by
 cases ai:o.op<;>rw[ai]at h
 case convert S O7 x=>
  simp only[H2]at h;split at h
  ·cases h
  ·rename_i gE u;generalize U:(Nat.beq S T&&_)=eM at h;cases eM with
   |false=>cases h
   |true=>
    simp only[cond_true]at h;simp only[Bool.and_eq_true]at U;have h1:=Nat.eq_of_beq_eq_true U.1;have D:=Nat.eq_of_beq_eq_true U.2;subst h1;subst D
    cases h;simp only[Prod.mk.injEq,List.cons.injEq,and_true]at he;subst he;exact b4 o N ids env.ev σ x ai (asv u)
 all_goals (simp only[H2]at h;cases h)
def adz{op:BinOp}{T:Nat}{a b r:Q}(b4:∀(o:Oper) (N:Nat) (ids:dg) (ev:Operand→Q) (σ:Y) (x y:Operand) (aV:Nat),o.op=.binOp op T x y aV→ev x=a→ev y=b→Yields ⟨P,N,ids⟩ o ev σ [] [] r){s:c7}{aX:cZ}(h:H1 env op T r o.op=some (s,aX))(he:aX=([a,b],[])):fP ⟨P,N,ids⟩ o env σ s:=by
 cases ai:o.op<;>rw[ai]at h
 case binOp MN S x y aV=>
  simp only[H1]at h;split at h
  ·cases h
  ·rename_i gE u;split at h
   ·cases h
   ·rename_i aP ag;generalize U:(decide (MN=op)&&_)=eM at h;cases eM with
    |false=>cases h
    |true=>
     simp only[cond_true]at h;simp only[Bool.and_eq_true]at U;have h1:=of_decide_eq_true U.1;have D:=Nat.eq_of_beq_eq_true U.2;subst h1;subst D
     cases h;simp only[Prod.mk.injEq,List.cons.injEq,and_true]at he;obtain⟨rfl,rfl⟩:=he;exact b4 o N ids env.ev σ x y aV ai (asv u) (asv ag)
 all_goals (simp only[H1]at h;cases h)
def atu{G:ch}{ev:Operand→Q}{T E sz:Nat}{x hi qu:Operand}{f:Bool}{lo:Option Operand}{xs:List (List Q)}{aA:Int}(h:o.op=.slice T x lo (some hi) (some qu))(u:iw σ (ev x) (.bf f xs))(aQ:kV G.P T E sz)(eA:∀e∈xs,e.length=sz)(xF:vf ev lo)
  (Ee:vf ev (some hi)) (ak0:vf ev (some qu)) (UJ:q5 ev xs.length (some hi)=aA) (em:q5 ev xs.length (some qu)=aA)
  (hb:0≤mm ev lo∧mm ev lo≤aA∧aA≤xs.length) (R:dg) (cf:∀az:Y,(∀d∈R,az.get d=σ.get d)→iw az (ev x) (.bf f xs)) :
  Yields G o ev σ [] R (.bf true ((xs.take aA.toNat).drop (mm ev lo).toNat)):=
 .pure λaz cx I β w aZ LF an hop=>by
  have h1:=(cf az LF).rep an _ (hop x (by simp[h,Op.operands]));simp only[au,bc]at h1;obtain⟨a,c,h1,D,aj,_,a1⟩:=h1;generalize aH:mm ev lo=l at hb ⊢;have aJ:(Instr.sliceBounds true xs.length c (lo.map aZ) (some (aZ hi)) (some (aZ qu))).run G.P w=.ok (l.toNat,aA.toNat,aA.toNat) w:=by
   have hu:0≤aA∧aA≤(c:Int):=by omega
   have GU:0≤l∧l≤(aA.toNat:Int):=by omega
   obtain⟨Mx,nz,np,qD⟩:=zY Ee (hop hi (by simp[h,Op.operands]));obtain⟨ak6,VU,m1,m2⟩:=zY ak0 (hop qu (by simp[h,Op.operands]));simp only[q5,np]at UJ;simp only[q5,m1]at em;subst UJ em;have x1:=run_sliceBound (P:=G.P) (k:=ak6) (code:=.slice3Acap) (w:=w) hu;have gJ:=run_sliceBound (P:=G.P) (k:=Mx) (n:=VU) (y:=VU.toNat) (code:=.slice3B) (w:=w) (by omega);cases lo with
   |none=>
    simp only[mm]at aH;subst aH;simp[Instr.sliceBounds,qD,m2,x1,gJ]
   |some y=>
    obtain⟨k,n,ak,ar⟩:=zY xF (hop y (by simp[h,Op.operands]));simp only[mm,ak]at aH;subst aH;have:=run_sliceBound (P:=G.P) (k:=k) (code:=.slice3C) (w:=w) GU;simp[Instr.sliceBounds,qD,m2,x1,gJ,ar,this]
  have eY:(execOp aZ o).run G.P w=.ok (.value (.slice (if aA.toNat=l.toNat then a else a.map (·.add (l.toNat*sz))) (aA.toNat-l.toNat) (aA.toNat-l.toNat))) w:=by
   have e2:∀w,(underlying T).run G.P w=.ok (.slice E) w:=λw=>run_underlying aQ.gY w;simp only[execOp,h,Instr.sliceAt,Instr.slice,h1,Sem.run_bind,e2,Result.andThen_ok,Option.map_some,aJ,aQ.size,Sem.run_pure]
  refine⟨_,eY,?_⟩;simp only[au,bc];have xy:((xs.take aA.toNat).drop l.toNat).length=aA.toNat-l.toNat:=by rw[length_drop,length_take];omega
  refine⟨_,aA.toNat-l.toNat,by rw[xy],by rw[xy];omega,by omega,λ_=>xy.symm,?_⟩;by_cases he:(xs.take aA.toNat).drop l.toNat=[]
  ·exact .inl he
  ·right;have bL:l.toNat<aA.toNat:=by
    rcases Nat.lt_or_ge l.toNat aA.toNat with q|q
    ·exact q
    ·exact absurd (eq_nil_of_length_eq_zero (by rw[xy];omega)) he
   rcases a1 with rfl|⟨b,p,rfl,a1⟩
   ·simp at he
   ·refine⟨b,p+l.toNat*sz,?_,HV _ _ _ (λe cA=>eA e (mem_of_mem_take cA)) (M6 _ _ _ a1)⟩;rw[if_neg (by omega)];simp[mc]
def adA(bb:jT P bP){sz:Nat}{xs zs:List (List Q)}{a b:Int}(b4:td sz xs a b zs){s:c7}{aX:cZ}(h:B6 bP env σ sz zs o.op=some (s,aX))(he:aX=([.bf false xs,.int .i64 a,.int .i64 b,.int .i64 b],[])):fP ⟨P,N,ids⟩ o env σ s:=by
 obtain⟨cQ,dM,eH⟩:=b4;cases ai:o.op<;>rw[ai]at h
 case slice T x lo hi qu=>
  cases qu with
  |none=>cases hi<;>(simp only[B6]at h;cases h)
  |some qu=>cases hi with
   |none=>simp only[B6]at h;cases h
   |some hi=>
    simp only[B6]at h;split at h
    ·rename_i jk _ _ aQ;have hk:=(jF.get bb.tys aQ).kd;simp only[mG]at hk;split at h
     ·cases h
     ·rename_i nR u;split at h
      ·rename_i f l6 X;split at h
       ·cases h
       ·rename_i gE ay;split at h
        ·cases h
        ·rename_i aP ha;split at h
         ·cases h
         ·rename_i ep eS;cases U:Nat.beq jk sz with
          |false=>rw[U]at h;cases h
          |true=>
           rw[U]at h;cases h
           simp only[Prod.mk.injEq,List.cons.injEq,Q.bf.injEq,Q.int.injEq,and_true,true_and]at he;obtain⟨rfl,rfl,rfl,aiN⟩:=he;have:=Nat.eq_of_beq_eq_true U;subst this;obtain⟨ak,ar⟩:=OQ ay;obtain⟨aM,aK⟩:=OR ha;obtain⟨be,bJ⟩:=OR eS
           have hV:=atu (G:=⟨P,N,ids⟩) (σ:=σ) ai (by rw[asv u];exact tX X) hk.1 cQ ak aM be aK (bJ.trans aiN) (by rw[ar];exact dM) (Cj nR) (λaz cf=>by
            rw[asv u];have:jG [] az nR=some (.bf f l6):=by
             cases nR
             case own d=>simp only[jG]at X ⊢;rw[cf _ (by simp[Cj])];exact X
             case bf b l=>cases b<;>exact X
             case dr d=>simp only[jG]at X;split at X<;>first|cases X|(split at X<;>cases X)
             case agg l=>simp only[jG]at X;split at X<;>cases X
             case cI l=>simp only[jG]at X;split at X<;>cases X
             case fn f l=>simp only[jG]at X;split at X<;>cases X
             all_goals exact X
            exact tX this)
           rw[ar,eH]at hV;exact hV
      ·cases h
    ·cases h
 all_goals (simp only[B6]at h;cases h)
def V6{P:Program}(op:BinOp)(t:TypeId)(x y:Operand)(a gE:Option Addr)(n iE c pE:Nat)(w:World):(eqGuard op t x y (.slice a n c) (.slice gE iE pE)).run P w=.ok () w:=by
 unfold eqGuard;cases op<;>rfl
def anU{P:Program}(w:World)(t e:TypeId)(a:Option Addr)(n c iE pE:Nat)(h:P.underlying t=some (.slice e)):(binOp .neq t (.slice a n c) (.slice none iE pE)).run P w=.ok (.bool (!a.isNone)) w:=by
 simp only[binOp];simp[Op.equal,Op.maxDepth,Lib.run_equalIn_slice_nil w 9999 t e a n c iE pE h]
def adB(bb:jT P bP){neg:Bool}{a:Q}(b4:F6 a){s:c7}{aX:cZ}(h:Is bP env neg o.op=some (s,aX))(he:aX=([a],[])):fP ⟨P,N,ids⟩ o env σ s:=by
 cases ai:o.op<;>rw[ai]at h
 case binOp op T x y ll=>
  simp only[Is]at h;split at h
  ·cases h
  ·rename_i gE u;split at h
   ·rename_i ag;split at h
    ·rename_i aJ e2 dm E gb gU i1 aQ;have hu:P.underlying T=some (.slice E):=(jF.get bb.tys aQ).kd.1.gY;have key:∀(gE:Q),env.cW x=some gE→gE=a→∀(I:bs) (β:Nat→Value) (aZ:Operand→Value),(∀z∈o.op.operands,au I β (env.ev z) (aZ z))→∃p n c,aZ x=.slice (some p) n c∧aZ y=.slice none 0 0:=by
      intro gE u e I β aZ hop;have h1:=hop x (by simp[ai,Op.operands]);rw[asv u,e]at h1;have D:=hop y (by simp[ai,Op.operands]);rw[asv ag]at D;simp only[au,bc]at D;obtain⟨p,n,c,e⟩:=b4 I β _ h1;exact⟨p,n,c,e,D⟩
     split at h
     ·cases neg with
      |true=>cases h
      |false=>
       cases h;simp only[Prod.mk.injEq,List.cons.injEq,and_true]at he;refine .pure λ_ _ I β w aZ _ _ hop=>?_;obtain⟨p,n,c,aJ,e2⟩:=key _ u he I β aZ hop;refine⟨.bool false,?_,by simp[au,bc]⟩;simp only[execOp,ai,aJ,e2,Sem.run_bind,V6,Result.andThen_ok,Lib.run_eql_slice_nil w T E (some p) n c 0 0 hu];rfl
     ·cases neg with
      |false=>cases h
      |true=>
       cases h;simp only[Prod.mk.injEq,List.cons.injEq,and_true]at he;refine .pure λ_ _ I β w aZ _ _ hop=>?_;obtain⟨p,n,c,aJ,e2⟩:=key _ u he I β aZ hop;refine⟨.bool true,?_,by simp[au,bc]⟩;simp only[execOp,ai,aJ,e2,Sem.run_bind,V6,Result.andThen_ok,anU w T E (some p) n c 0 0 hu];rfl
     ·cases h
    ·cases h
   ·cases h
 all_goals (simp only[Is]at h;cases h)
def IC(bb:jT P bP):∀{hint:Hint P} {s:c7} {aX:cZ},Ck bP ids o env σ hint=some (s,aX)→aX=hint.exp→fP ⟨P,N,ids⟩ o env σ s
 |.Dx,s,aX,h,he=>by
  simp only[Ck]at h;split at h
  ·rename_i R bN ag;cases h;exact adV bb ag
  ·split at h
   ·rename_i cO X;cases h;exact adW bb X
   ·cases h
 |.al d,s,aX,h,he=>by
  simp only[Ck]at h;split at h
  ·rename_i cO X;cases h;exact adX bb X
  ·cases h
 |.to cA a b e,s,aX,h,he=>by
  simp only[Ck]at h;split at h
  ·rename_i R bN r9 X;cases h
   simp only[Hint.exp,Prod.mk.injEq,List.cons.injEq]at he;obtain⟨⟨h1,D⟩,aj⟩:=he;have:=IC bb X (Prod.ext D aj);simp only[fP]at this ⊢;rw[←e,←h1];exact this
  ·cases h
 |.ix sz xs i row b4,s,aX,h,he=>adY bb b4 h he
 |.lo d sz xs i off row b4,s,aX,h,he=>adZ bb b4 h he
 |.so d sz xs i off ca zs b4 k hk,s,aX,h,he=>ad0 bb b4 hk h he
 |.rf f uE dx r b4 af,s,aX,h,he=>ad2 b4 af h he
 |.ro wF f σs dx r b4 af,s,aX,h,he=>ad1 b4 af h he
 |.le cS f dx r b4 af,s,aX,h,he=>ad3 b4 af h he
 |.mA news f dk dx r σ2 b4 af,s,aX,h,he=>ad4 b4 af h he
 |.dl cS news f dx r σ2 b4 af AQ,s,aX,h,he=>ad5 b4 af AQ h he
 |.gs AP ex f b4,s,aX,h,he=>b4 o N ids env σ s aX h he
 |.ap d2 sz bytes xs bx zs b4,s,aX,h,he=>adp bb b4 h he
 |.sl sz xs a b zs b4,s,aX,h,he=>adr bb b4 h he
 |.ws d2 sz xs a zs b4,s,aX,h,he=>adq bb b4 h he
 |.qr n b4,s,aX,h,he=>ads b4 h he
 |.sh n b4,s,aX,h,he=>adt b4 h he
 |.is kk n b b4,s,aX,h,he=>acp bb b4 h he
 |.lk E k bH n a b b4,s,aX,h,he=>adu bb b4 h he
 |.va k bH n v me b4,s,aX,h,he=>adv bb b4 h he
 |.lm k bH n b4,s,aX,h,he=>adw bb b4 h he
 |.Ni neg T a b r b4,s,aX,h,he=>adx b4 h he
 |.E7 neg a b4,s,aX,h,he=>adB bb b4 h he
 |.s3 sz xs a b zs b4,s,aX,h,he=>adA bb b4 h he
 |.pu T aV a r b4,s,aX,h,he=>ady b4 h he
 |.pb op T a b r b4,s,aX,h,he=>adz b4 h he
end
end
section
inductive oO where
 |c5 (cS:dg)
 |ad (t d T sz:Nat)
 |ac (d0 d T sz i:Nat)
 |mu (a b:Nat)
 |sc (d0:Nat) (kp:dg)
 |rn (a b:Nat)
 |wi (d:Nat)
def xP(ids:dg)(env:ah)(σ:Y):oO→Option (ah×Y)
 |.c5 cS=>some (env,σ.freeze cS)
 |.ad t d T sz=>match env.find t with
  |some .c4=>bif (σ.get d).isNone&&!ids.contains d&&env.clean (Nat.beq d)&&σ.clean (Nat.beq d)then some ((t,.own d)::env,(d,.slice T sz [] 0 false)::σ)else none
  |_=>none
 |.ac d0 d T sz i=>match σ.get d0 with
  |some (.cells bn cs)=>(match cs.drop i with
   |.c4::post=>bif !Nat.beq d0 d&&!ids.contains d&&env.clean (Nat.beq d)&&σ.clean (Nat.beq d)then some (env,(d,.slice T sz [] 0 false)::σ.set d0 (.cells bn (cs.take i++.own d::post)))else none
   |_=>none)
  |_=>none
 |.mu a b=>bif zV (swp a b) (swp a b) ids env σ then some (env.cN (swp a b),σ.cN (swp a b))else none
 |.rn a b=>bif zV (λd=>bif Nat.beq d a then b else d) (λd=>bif Nat.beq d b then a else d) ids env σ then some (env.cN (λd=>bif Nat.beq d a then b else d),σ.cN (λd=>bif Nat.beq d a then b else d))else none
 |.sc d0 kp=>match σ.get d0 with
  |some (.cells bn cs)=>(match ue kp σ cs with|none=>none|some ow=>some (env,σ.set d0 (.cells bn ow)))
  |_=>none
 |.wi d=>match σ.get d with
  |some (.slice T sz xs _ _)=>some (env,Y.set d (.win T sz xs) (σ.freeze [d]))
  |_=>none
def Ai(ids:dg):List oO→ah→Y→Option (ah×Y)
 |[],env,σ=>some (env,σ)
 |m::r,env,σ=>match xP ids env σ m with
  |none=>none
  |some (e,s)=>Ai ids r e s
variable {G:ch}
def adC{env dB:ah}{σ σ2:Y}{m:oO}(h:xP G.ids env σ m=some (dB,σ2)):cr G env σ dB σ2:=by
 cases m with
 |c5 cS=>cases h;exact cr.freeze G env σ cS
 |ad t d T sz=>
  simp only[xP]at h;split at h
  ·rename_i aR;generalize U:((σ.get d).isNone&&_&&_&&_)=eM at h;cases eM with
   |false=>cases h
   |true=>
    cases h;simp only[Bool.and_eq_true,Bool.not_eq_true',Option.isNone_iff_eq_none]at U;exact aus t d T sz (asM aR) U.1.1.1 U.1.1.2 U.1.2 U.2
  ·cases h
 |ac d0 d T sz i=>
  simp only[xP]at h;split at h
  ·rename_i bn cs bM;split at h
   ·rename_i post aC;generalize U:(!Nat.beq d0 d&&_&&_&&_)=eM at h;cases eM with
    |false=>cases h
    |true=>
     cases h;simp only[Bool.and_eq_true,Bool.not_eq_true']at U;exact aur d0 d T sz bn (cs.take i) post (by rw[bM,←aC,take_append_drop]) U.1.1.1 U.1.1.2 U.1.2 U.2
   ·cases h
  ·cases h
 |mu a b=>
  simp only[xP]at h;cases U:zV (swp a b) (swp a b) G.ids env σ with
  |false=>rw[U]at h;cases h
  |true=>rw[U]at h;cases h;exact cr.cN _ _ U
 |rn a b=>
  simp only[xP]at h;generalize U:zV _ _ _ _ _=eM at h;cases eM with
  |false=>cases h
  |true=>cases h;exact cr.cN _ _ U
 |wi d=>
  simp only[xP]at h;split at h
  ·rename_i T sz xs k c5 Z;cases h;exact(cr.freeze G env σ [d]).trans (cr.win (by rw[asN,Z];simp only[Option.map_some,List.mem_singleton,if_true,cc.vN]) rfl)
  ·cases h
 |sc d0 kp=>
  simp only[xP]at h;split at h
  ·rename_i bn cs bM;split at h
   ·cases h
   ·rename_i ow X;cases h;refine λcx I β a w an bE=>⟨I,β,?_,bE⟩;have iA:=zH X;refine{an with cw:=λd o Z=>?_,dA:=λd dh Z dH cb b=>?_}
    ·rw[asB]at Z;split at Z
     ·rename_i LN;subst LN;rw[bM]at Z;simp only[Option.map_some,Option.some.injEq]at Z;subst Z;have:=an.cw d _ bM;simp only[aY]at this ⊢;rcases this with h1|⟨b,arr,h1,D,aj,a1⟩
      ·exact .inl h1
      ·exact .inr ⟨b,arr,h1,D,iA.rep an _ aj,a1⟩
     ·exact an.cw d o Z
    ·have key:∀x,((σ.set d0 (.cells bn ow)).get x).isSome→(σ.get x).isSome:=λx u=>by
      rw[asB]at u;split at u
      ·rename_i he;subst he;rw[bM];rfl
      ·exact u
     exact an.dA d dh (key d Z) (key dh dH) cb b
  ·cases h
def E2{G:ch}:∀{kJ:List oO} {env dB:ah} {σ σ2:Y},Ai G.ids kJ env σ=some (dB,σ2)→cr G env σ dB σ2
 |[],env,_,σ,_,h=>by cases h;exact cr.refl G env σ
 |m::r,env,dB,σ,σ2,h=>by
  simp only[Ai]at h;split at h
  ·cases h
  ·rename_i e s hm;exact(adC hm).trans (E2 h)
def Cl(sl:dg)(kp:dg)(σ:Y)(env:ah):dg→Option ah
 |[]=>some []
 |k::r=>match env.find k with
  |none=>none
  |some a=>match(bif sl.any (Nat.beq k)then jG kp σ a else some a)with
   |none=>none
   |some b=>match Cl sl kp σ env r with
    |none=>none
    |some l=>some ((k,b)::l)
def ID{sl:dg}{kp:dg}{σ:Y}{env:ah}:∀{ks:dg} {dB:ah},Cl sl kp σ env ks=some dB→xR σ env dB
 |[],dB,h=>by cases h;trivial
 |k::r,dB,h=>by
  simp only[Cl]at h;split at h
  ·cases h
  ·rename_i a ay;split at h
   ·cases h
   ·rename_i b U;split at h
    ·cases h
    ·rename_i l aH;cases h;refine⟨?_,ID aH⟩;rw[asM ay];cases X:sl.any (Nat.beq k)with
     |false=>rw[X]at U;cases U;exact .refl _
     |true=>rw[X]at U;exact tX U
def Cm(ids:dg)(kJ:List oO)(sl:dg)(ks cS:dg)(env:ah)(σ:Y):Option (ah×Y):=match Ai ids kJ env σ with
 |none=>none
 |some (e,s)=>match Cl sl cS s e ks with
  |none=>none
  |some e2=>match s.at cS with
   |none=>none
   |some eg=>some (e2,eg)
def Qn{kJ:List oO}{sl:dg}{ks cS:dg}{env dB:ah}{σ σ2:Y}(h:Cm G.ids kJ sl ks cS env σ=some (dB,σ2)):cr G env σ dB σ2:=by
 simp only[Cm]at h;split at h
 ·cases h
 ·rename_i e s hm;split at h
  ·cases h
  ·rename_i e2 hk;split at h
   ·cases h
   ·rename_i eg X;cases h;exact(E2 hm).trans (atq (ID hk) (asR X).1)
abbrev rW(e:ah):dg:=e.map (·.1)
def cr.go{env dB:ah}{σ σ2:Y}(kJ:List oO)(sl:dg)(h:Cm G.ids kJ sl (rW dB) σ2.ids env σ=some (dB,σ2)):cr G env σ dB σ2:=Qn h
def Fz(ops:l7)(o:Oper)(env:ah):lz:=match o.guard with
 |none=>some true
 |some (j,want)=>match ops[j]? with
  |none=>none
  |some ek=>match ek.dst with
   |none=>none
   |some g2=>match env.find g2 with
    |some (.bool true)=>some want
    |some (.bool false)=>some (!want)
    |some .undef=>some false
    |_=>none
variable {o:Oper}{ops:l7}
def IX{env:ah}(h:Fz ops o env=some true):jm ops o env:=by
 unfold Fz at h;split at h
 ·exact jm.n ‹_›
 ·rename_i j want bu;split at h
  ·cases h
  ·rename_i ek aT;split at h
   ·cases h
   ·rename_i g2 Z;split at h
    ·rename_i he;cases h;exact auI bu aT Z (asM he) rfl
    ·rename_i he;simp only[Option.some.injEq,Bool.not_eq_true']at h;subst h;exact auI bu aT Z (asM he) rfl
    ·cases h
    ·cases h
def Q7{env:ah}(h:Fz ops o env=some false):mj ops o env:=by
 unfold Fz at h;split at h
 ·cases h
 ·rename_i j want bu;split at h
  ·cases h
  ·rename_i ek aT;split at h
   ·cases h
   ·rename_i g2 Z;split at h
    ·rename_i he;cases h;exact auJ bu aT Z (asM he) rfl
    ·rename_i he;simp only[Option.some.injEq,Bool.not_eq_false']at h;subst h;exact auJ bu aT Z (asM he) rfl
    ·rename_i he;exact mj.undef bu aT Z (asM he)
    ·cases h
def sW{P:Program}(bP:g4)(ids:dg)(ops:l7)(s:mx):List (Nat×Hint P)→List (Nat×dg)→ah→Y→Option (ah×Y×List cZ)
 |[],_,env,σ=>some (env,σ,[])
 |(i,h)::r,log,env,σ=>match ops[i]? with
  |none=>none
  |some o=>match Fz ops o env with
   |none=>none
   |some false=>(match sW bP ids ops s r (bif qo s i then(i,[])::log else log) (env.put o.dst .undef) σ with
    |none=>none
    |some (e,cO,nN)=>some (e,cO,([],[])::nN))
   |some true=>match Ck bP ids o env σ h with
    |none=>none
    |some (.y R bN,aX)=>bif !qo s i||J5 σ R then(match sW bP ids ops s r (bif qo s i then(i,R)::log else log) (env.put o.dst bN) σ with
     |none=>none
     |some (e,cO,nN)=>some (e,cO,aX::nN))else none
    |some (.v d r9 bN,aX)=>bif qo s i&&env.clean [d].contains&&σ.clean [d].contains&&Tt r9 then(match sW bP ids ops s r ((i,[d])::log) (env.put o.dst bN) ((d,r9)::σ)with
     |none=>none
     |some (e,cO,nN)=>some (e,cO,aX::nN))else none
    |some (.e M news bN az,aX)=>bif vV s i&&(!s.ff||rV s i M log)&&env.clean news.contains&&news.all (λd=>(σ.get d).isNone)then(match sW bP ids ops s r log (env.put o.dst bN) az with
     |none=>none
     |some (e,cO,nN)=>some (e,cO,aX::nN))else none
def RW{s:mx}{i:Nat}(h:qo s i=false):vV s i=true:=by
 unfold qo at h;unfold vV
 cases Z:s.ff<;>simp_all
def xS{P:Program}{bP:g4}{N:Nat}{ids:dg}{ops:l7}{s:mx}{K:ah→Y→Prop}(bb:jT P bP):∀{fG:List (Nat×Hint P)} {log:List (Nat×dg)} {env Ae:ah} {σ sp:Y} {nN:List cZ},
  sW bP ids ops s fG log env σ=some (Ae,sp,nN)→nN=fG.map (λp=>p.2.exp)→K Ae sp→fD ⟨P,N,ids⟩ ops s log (fG.map (·.1)) env σ K
 |[],log,env,Ae,σ,sp,nN,h,_,k=>by cases h;exact C.nil k
 |(i,hi)::r,log,env,Ae,σ,sp,nN,h,he,k=>by
  simp only[sW]at h;split at h
  ·cases h
  ·rename_i o ai;split at h
   ·cases h
   ·rename_i an;split at h
    ·cases h
    ·rename_i e cO Kx aB;cases h;simp only[map_cons,List.cons.injEq]at he ⊢;cases aC:qo s i with
     |true=>rw[aC]at aB;exact C.skip ai (Q7 an) aC (xS bb aB he.2 k)
     |false=>rw[aC]at aB;exact auO ai (Q7 an) (RW aC) (xS bb aB he.2 k)
   ·rename_i an;split at h
    ·cases h
    ·rename_i R bN aX X;generalize U:(!qo s i||_)=eM at h;cases eM with
     |false=>cases h
     |true=>
      simp only[cond_true]at h;split at h
      ·cases h
      ·rename_i e cO Kx aB;cases h;simp only[map_cons,List.cons.injEq]at he ⊢;have hV:=IC (N:=N) bb X he.1;cases aC:qo s i with
       |true=>
        rw[aC]at aB U;exact C.y ai (IX an) aC (by simpa using U) hV (xS bb aB he.2 k)
       |false=>
        rw[aC]at aB;exact C.vM ai (IX an) (RW aC) hV (xS bb aB he.2 k)
    ·rename_i d r9 bN aX X;generalize U:(qo s i&&_&&_&&_)=eM at h;cases eM with
     |false=>cases h
     |true=>
      simp only[cond_true]at h;simp only[Bool.and_eq_true]at U;split at h
      ·cases h
      ·rename_i e cO Kx aB;cases h;simp only[map_cons,List.cons.injEq]at he ⊢;have hV:=IC (N:=N) bb X he.1;exact C.v ai (IX an) U.1.1.1 hV.1 U.1.1.2 U.1.2 U.2 hV.2 (xS bb aB he.2 k)
    ·rename_i M news bN az aX X;generalize U:(vV s i&&_&&_&&_)=eM at h;cases eM with
     |false=>cases h
     |true=>
      simp only[cond_true]at h;simp only[Bool.and_eq_true]at U;split at h
      ·cases h
      ·rename_i e cO Kx aB;cases h;simp only[map_cons,List.cons.injEq]at he ⊢;have hV:=IC (N:=N) bb X he.1;refine C.e ai (IX an) U.1.1.1 hV.1 U.1.1.2 U.1.2 ?_ (λa eg cA=>?_)
       ·rw[List.all_eq_true];intro d Z;rw[Bool.and_eq_true];exact⟨List.all_eq_true.1 hV.2 d Z,List.all_eq_true.1 U.2 d Z⟩
       ·obtain⟨rfl,rfl⟩:=cA;exact xS bb aB he.2 k
def TA(l:dg)(n:Nat):dg:=bif l.any (Nat.beq n)then l else n::l
def amu(ops:List Oper):su:=
 (ops.foldl (λ(T:su) o=>(o.after.toList.foldl (λw e=>bif Region.binds .any e then(T.getD (T.length-1-e.on) []).foldl TA (TA w e.on)else w) [])::T) []).reverse
def Hint.AP{P:Program}:Hint P→Bool
 |.mA ..|.dl ..|.ap ..=>true
 |.gs e _ _ _=>e
 |_=>false
def ag4:Op→Bool
 |.assign _|.store ..|.mapUpdate ..|.insert ..|.entryStore ..|.makeSlice ..=>true
 |_=>false
def hintOf{P:Program}(X:List (Nat×Hint P))(i:Nat):Hint P:=match X with
 |[]=>.Dx
 |(k,h)::r=>bif Nat.beq k i then h else hintOf r i
def JY{P:Program}(X:List (Nat×Hint P)):Nat→List Oper→dg
 |_,[]=>[]
 |i,o::r=>bif ag4 o.op||(hintOf X i).AP then i::JY X (i+1) r else JY X (i+1) r
def JZ(T:su)(es left:dg):dg→ku→ku
 |[],f=>f
 |i::r,f=>bif (T.getD i []).any (λj=>left.any (Nat.beq j))then JZ T es left r f
   else bif es.any (Nat.beq i)then JZ T es left r (match f with|none=>some i|some x=>some x)else some i
def RX(T:su)(es:dg):Nat→dg→dg
 |0,_=>[]
 |n+1,left=>match JZ T es left left none with
  |none=>[]
  |some i=>i::RX T es n (left.filter λj=>!Nat.beq i j)
def lf{P:Program}(ops:l7)(ff:Bool)(X:List (Nat×Hint P)):mx×dg:=
 bif ff then
  let T:=amu ops.toList
  let es:=JY X 0 ops.toList
  (⟨true,T,es⟩,RX T es ops.size (List.range ops.size))
 else(⟨false,[],[]⟩,List.range ops.size)
def HW(N:Nat)(ops:l7)(ff:Bool)(s:mx)(l:dg):Bool:=bif ff then s.ff&&FO N ops s l else !s.ff&&s.T.isEmpty&&s.es.isEmpty&&wz N ops
def wN{P:Program}(bP:g4)(N:Nat)(ids:dg)(ops:l7)(ff:Bool)(s:mx)(l:dg)(kJ:List oO)(X:List (Nat×Hint P))(ks cS:dg)(env:ah)(σ:Y):Option (ah×Y×List cZ):=
 bif HW N ops ff s l then
  (match Ai ids kJ env σ with
  |none=>none
  |some (mT,kk)=>match sW bP ids ops s (l.map λi=>(i,hintOf X i)) [] mT kk with
   |none=>none
   |some (aJ,dW,nN)=>match Cl [] cS dW aJ ks with
    |none=>none
    |some e2=>match dW.at cS with
     |none=>none
     |some eg=>some (e2,eg,nN))
 else none
section code
variable {P:Program}{N:Nat}{ids:dg}{bP:g4}{env:ah}{σ:Y}{bq:Exit→ah→Y→Prop}{x y c:Code}
def A.R(bb:jT P bP){id:Nat}{ops:l7}{ff:Bool}(kJ:List oO)(X:List (Nat×Hint P))(dB:ah)(σ2:Y)
  (h:wN bP N ids ops ff (lf ops ff X).1 (lf ops ff X).2 kJ X (rW dB) σ2.ids env σ=some (dB,σ2,(lf ops ff X).2.map λi=>(hintOf X i).exp)) (k:bq .normal dB σ2):aS ⟨P,N,ids⟩ (.region id ops ff) bq env σ:=by
 generalize iA:lf ops ff X=sl at h;obtain⟨s,l⟩:=sl;simp only[wN]at h;cases jv:HW N ops ff s l with
 |false=>rw[jv]at h;cases h
 |true=>
  rw[jv]at h;simp only[cond_true]at h;split at h
  ·cases h
  ·rename_i mT kk hm;split at h
   ·cases h
   ·rename_i aJ dW nN aB;split at h
    ·cases h
    ·rename_i e2 hk;split at h
     ·cases h
     ·rename_i eg ef;simp only[Option.some.injEq,Prod.mk.injEq]at h;obtain⟨rfl,rfl,ai⟩:=h;refine asD (E2 hm) ?_
      have af:∀K:ah→Y→Prop,K aJ dW→fD ⟨P,N,ids⟩ ops s [] l mT kk K:=λK h8=>by
       have:=xS (N:=N) (K:=K) bb aB (by rw[ai,List.map_map];rfl) h8;rw[List.map_map,show((λx:Nat×Hint P=>x.1)∘λi=>(i,hintOf X i))=λi=>i from rfl,List.map_id']at this;exact this
      refine as6 ?_;have TB:∃dB σ2,cr ⟨P,N,ids⟩ aJ dW dB σ2∧bq .normal dB σ2:=⟨e2,eg,atq (ID hk) (asR ef).1,k⟩;cases ff with
      |false=>
       simp only[HW,cond_false,Bool.and_eq_true,Bool.not_eq_true',List.isEmpty_iff]at jv;have lY:s=⟨false,[],[]⟩:=by
        obtain⟨a,b,c⟩:=s;simp only at jv;obtain⟨⟨⟨h1,D⟩,aj⟩,a1⟩:=jv;subst h1 D aj;rfl
       have aH:l=List.range ops.size:=by
        have:=congrArg Prod.snd iA;simpa [lf]using this.symm
       subst lY aH;exact A.region jv.2 (af _ TB)
      |true=>
       simp only[HW,cond_true,Bool.and_eq_true]at jv;obtain⟨ap1,T,es⟩:=s;obtain⟨h1,D⟩:=jv;simp only at h1;subst h1;exact A.any T es l bb.mix D (af _ TB)
def asx(bb:jT P bP){id:Nat}{ops:l7}{ff:Bool}(kJ:List oO)(X:List (Nat×Hint P))(dB:ah)(σ2:Y)
  (h:wN bP N ids ops ff (lf ops ff X).1 (lf ops ff X).2 kJ X (rW dB) σ2.ids env σ=some (dB,σ2,(lf ops ff X).2.map λi=>(hintOf X i).exp)) (k:aS ⟨P,N,ids⟩ y bq dB σ2):aS ⟨P,N,ids⟩ (.seq (.region id ops ff) y) bq env σ:=
 A.seq (A.R bb kJ X dB σ2 h k)
def asC{G:ch}{o:Operand}{p:Bool}(af:env.cW o=some (.bool p))(aC:p=true)(k:aS G x bq env σ):aS G (.cond o x y) bq env σ:=A.cond (asv af) (λ_=>k) (λbm=>by rw[aC]at bm;cases bm)
def asA{G:ch}{o:Operand}{p:Bool}(af:env.cW o=some (.bool p))(aC:p=false)(k:aS G y bq env σ):aS G (.cond o x y) bq env σ:=A.cond (asv af) (λbE=>by rw[aC]at bE;cases bE) (λ_=>k)
def A.J{G:ch}{α aZ:Type}{J:α→Option aZ}{r:aZ}(fI:α→ah)(fV:α→Y)
  (h:aS G x (qX (λgy az=>∃g,J g=some r∧cr G gy az (fI g) (fV g)) bq) env σ) (k:∀g,J g=some r→aS G y bq (fI g) (fV g)):aS G (.seq x y) bq env σ:=by
 refine A.seq (h.mono ?_);intro e gy az bV;cases e with
 |normal=>
  obtain⟨g,bu,an⟩:=bV;exact asD an (k g bu)
 |_=>exact bV
def asz{G:ch}{α S aZ:Type}{l:List α}{B:Int→α→(S→Option aZ)→S→Option aZ}{K:S→Option aZ}{kk:S}{hj:Nat}{r:aZ}(hm:ez (l.drop hj) hj B K kk=some r)(fI:Nat→S→ah)(fV:Nat→S→Y)
  (an:cr G env σ (fI hj kk) (fV hj kk))
  (fB:∀(j:Nat) (x:α) (b7:S→Option aZ) (s:S),hj≤j→l[j]?=some x→B j x b7 s=some r→aS G c (qX (λgy az=>∃cO,b7 cO=some r∧cr G gy az (fI (j+1) cO) (fV (j+1) cO)) bq) (fI j s) (fV j s))
  (pP:∀(j:Nat) (s:S),hj≤j→l.length≤j→K s=some r→aS G c (qX (λ_ _=>False) bq) (fI j s) (fV j s)):aS G (.loop c) bq env σ:=by
 refine A.loop (α:=Nat×S) (λg=>fI g.1 g.2) (λg=>fV g.1 g.2) (λg=>hj≤g.1∧ez (l.drop g.1) g.1 B K g.2=some r) (λg=>l.length-g.1) (hj,kk) ⟨Nat.le_refl _,hm⟩ an ?_;rintro⟨j,s⟩ ⟨aT,bm⟩;simp only at aT bm ⊢;by_cases bL:j<l.length
 ·have u:l[j]?=some l[j]:=List.getElem?_eq_getElem bL;rw[drop_eq_getElem_cons bL]at bm;refine(fB j l[j] (ez (l.drop (j+1)) (j+1) B K) s aT u bm).mono ?_;intro e gy az bV;cases e with
  |normal=>
   obtain⟨cO,h1,D⟩:=bV;exact⟨(j+1,cO),⟨by omega,h1⟩,by show l.length-(j+1)<l.length-j;omega,D⟩
  |_=>exact bV
 ·rw[drop_eq_nil_of_le (by omega)]at bm;refine(pP j s aT (by omega) bm).mono ?_;intro e gy az bV;cases e with
  |normal=>exact bV.elim
  |_=>exact bV
def as4{G:ch}{S aZ:Type}{By:Nat}{o4 hi:Int}{B:Int→(S→Option aZ)→S→Option aZ}{K:Int→S→Option aZ}{kk:S}{r:aZ}(hm:ng By o4 B K kk=some r)(aR:By=(hi-o4).toNat)(fI:Int→S→ah)(fV:Int→S→Y)
  (an:cr G env σ (fI o4 kk) (fV o4 kk))
  (fB:∀(i:Int) (b7:S→Option aZ) (s:S),o4≤i→i<hi→B i b7 s=some r→aS G c (qX (λgy az=>∃cO,b7 cO=some r∧cr G gy az (fI (i+1) cO) (fV (i+1) cO)) bq) (fI i s) (fV i s))
  (pP:∀(i:Int) (s:S),o4≤i→hi≤i→K i s=some r→aS G c (qX (λ_ _=>False) bq) (fI i s) (fV i s)):aS G (.loop c) bq env σ:=by
 refine A.loop (α:=Nat×Int×S) (λg=>fI g.2.1 g.2.2) (λg=>fV g.2.1 g.2.2) (λg=>o4≤g.2.1∧g.1=(hi-g.2.1).toNat∧ng g.1 g.2.1 B K g.2.2=some r) (λg=>g.1) (By,o4,kk) ⟨Int.le_refl _,aR,hm⟩ an ?_;rintro⟨n,i,s⟩ ⟨aT,aR,bm⟩;simp only at aT aR bm ⊢;cases n with
 |zero=>
  refine(pP i s aT (by omega) bm).mono ?_;intro e gy az bV;cases e with
  |normal=>exact bV.elim
  |_=>exact bV
 |succ n=>
  refine(fB i (ng n (i+1) B K) s aT (by omega) bm).mono ?_;intro e gy az bV;cases e with
  |normal=>
   obtain⟨cO,h1,D⟩:=bV;exact⟨(n,i+1,cO),⟨by show o4≤i+1;omega,by show n=(hi-(i+1)).toNat;omega,h1⟩,by show n<n+1;omega,D⟩
  |_=>exact bV
def asL{G:ch}{S aZ:Type}{F:(S→Option aZ)→S→Option aZ}{By:Nat}{kk:S}{r:aZ}(hm:iter F By kk=some r)(fI:S→ah)(fV:S→Y)(an:cr G env σ (fI kk) (fV kk))
  (fB:∀(b7:S→Option aZ) (s:S),F b7 s=some r→aS G c (qX (λgy az=>∃cO,b7 cO=some r∧cr G gy az (fI cO) (fV cO)) bq) (fI s) (fV s)):aS G (.loop c) bq env σ:=by
 refine A.loop (α:=Nat×S) (λg=>fI g.2) (λg=>fV g.2) (λg=>iter F g.1 g.2=some r) (λg=>g.1) (By,kk) hm an ?_;rintro⟨n,s⟩ bm;cases n with
 |zero=>cases bm
 |succ n=>
  refine(fB (iter F n) s bm).mono ?_;intro e gy az bV;cases e with
  |normal=>
   obtain⟨cO,h1,D⟩:=bV;exact⟨(n,cO),h1,by show n<n+1;omega,D⟩
  |_=>exact bV
def W0{I:bs}{b:Nat}:∀{e:List Q} {o:Nat} {x:Q},k4 I b e o→x∈e→∃aA,bc I x aA
 |[],_,_,_,h=>by simp at h
 |y::r,o,x,aB,h=>by
  simp only[k4]at aB;rcases mem_cons.1 h with rfl|h
  ·obtain⟨aA,_,D⟩:=aB.1;exact⟨aA,D⟩
  ·exact W0 aB.2 h
def WN{I:bs}{b:Nat}:∀{xs:List (List Q)} {o:Nat} {e:List Q},jC I b xs o→e∈xs→∃o,k4 I b e o
 |[],_,_,_,h=>by simp at h
 |y::r,o,x,aB,h=>by
  simp only[jC]at aB;rcases mem_cons.1 h with rfl|h
  ·exact⟨o,aB.1⟩
  ·exact WN aB.2 h
def PL{I:bs}:∀{e:List Q} {vs:dZ} {x:Q},cV I e vs→x∈e→∃aA,bc I x aA
 |[],_,_,_,h=>by simp at h
 |y::r,vs,x,aB,h=>by
  simp only[cV]at aB;obtain⟨aA,bI,_,h1,D⟩:=aB;rcases mem_cons.1 h with rfl|h
  ·exact⟨aA,h1⟩
  ·exact PL D h
def ato{I:bs}:∀(n:Nat) (f:Bool) (xs:List (List Q)) (v:Value),bc I (.bf f xs) v→JC n xs
 |0,f,xs,v,h=>by
  simp only[bc]at h;obtain⟨a,c,_,h1,D,_⟩:=h;exact Nat.le_trans h1 D
 |n+1,f,xs,v,h=>by
  simp only[bc]at h;obtain⟨a,c,_,h1,D,_,aj⟩:=h;refine⟨Nat.le_trans h1 D,λe he g bx ag=>?_⟩;rcases aj with rfl|⟨b,o,_,a1⟩
  ·simp at he
  ·obtain⟨hx,bU⟩:=WN a1 he;obtain⟨aA,dP⟩:=W0 bU ag;exact ato n g bx aA dP
def atE{I:bs}{β:Nat→Value}{f:Bool}{xs:List (List Q)}{v:Value}(h:au I β (.bf f xs) v):mP xs:=λn=>ato n f xs v (by simpa only[au]using h)
def au3{I:bs}{β:Nat→Value}{f:Bool}{xs:List (List Q)}:∀{cs:List Q} {vs:dZ} {i:Nat},bW I β cs vs→cs[i]?=some (.bf f xs)→mP xs:=λh hi=>by
 obtain⟨v,_,D⟩:=IB h hi;exact atE D
def adD{G:ch}{cx:eW}{I:bs}{β:Nat→Value}{σ:Y}{w:World}(an:bY G cx I β σ w){d:Nat}{T sz k:Nat}{c5:Bool}{xs:List (List Q)}(Z:σ.get d=some (.slice T sz xs k c5)){v:Value}(aa:au I β (.own d) v):mP xs:=by
 obtain⟨a,c,_,ak,ar⟩:=Xd an Z aa;intro n;cases n with
 |zero=>exact Nat.le_trans ak ar
 |succ n=>
  refine⟨Nat.le_trans ak ar,λe he g bx ag=>?_⟩;simp only[au]at aa;have:=an.cw d _ Z;simp only[aY]at this;rcases this with h1|⟨_,rfl,_⟩|⟨b,aO,arr,_,_,_,_,_,dP,_⟩
  ·rw[aa.1,h1]at aa;simp[iD]at aa
  ·simp at he
  ·obtain⟨aA,fz⟩:=PL dP (List.mem_flatten.2 ⟨e,he,ag⟩);exact ato n g bx aA fz
def asH{G:ch}{f:Bool}{xs:List (List Q)}(t:Nat)(h:env.find t=some (.bf f xs))(k:mP xs→aS G c bq env σ):aS G c bq env σ:=by
 refine asT λcx a w aB=>?_;obtain⟨I,β,h1,D,aj,a1⟩:=aB;have aa:=D t;rw[asM h]at aa;exact(k (atE aa)).use cx a w ⟨I,β,h1,D,aj,a1⟩
def as8{G:ch}{T sz k:Nat}{c5:Bool}{xs:List (List Q)}{d:Nat}(t:Nat)(bE:env.find t=some (.own d))(h:σ.get d=some (.slice T sz xs k c5))(k:mP xs→aS G c bq env σ):aS G c bq env σ:=by
 refine asT λcx a w aB=>?_;obtain⟨I,β,h1,D,aj,a1⟩:=aB;have aa:=D t;rw[asM bE]at aa;exact(k (adD h1 h aa)).use cx a w ⟨I,β,h1,D,aj,a1⟩
def asS{G:ch}{T d:Nat}{f:Bool}{cs:List Q}{xs:List (List Q)}(t i:Nat)(bE:env.find t=some (.ptr d 0))(h:σ.get d=some (.cells T cs))(hi:cs[i]?=some (.bf f xs))(k:mP xs→aS G c bq env σ):aS G c bq env σ:=by
 refine asT λcx a w aB=>?_;obtain⟨I,β,h1,D,aj,a1⟩:=aB;have aa:=D t;rw[asM bE]at aa;simp only[au]at aa;obtain⟨b,U,_⟩:=aa;obtain⟨arr,_,_,mh,_⟩:=bY.box h1 h U;exact(k (au3 mh hi)).use cx a w ⟨I,β,h1,D,aj,a1⟩
def asK{G:ch}(dB:ah)(σ2:Y)(h:aS G y bq dB σ2→aS G (.seq x y) bq env σ)(k:aS G y bq dB σ2):aS G (.seq x y) bq env σ:=h k
end code
def j5(b:Bool):b=true∨b=false:=by cases b<;>simp
variable {p q:Bool}
def oh(h:p=true):Q.bool q=.bool (p&&q):=by rw[h];rfl
def r6(h:p=false):Q.bool false=.bool (p&&q):=by rw[h];rfl
def p3(h:p=true):Q.bool true=.bool (p||q):=by rw[h];rfl
def i5(h:p=false):Q.bool q=.bool (p||q):=by rw[h];rfl
def cg(h:p=q):Q.bool p=.bool q:=by rw[h]
section
variable {P:Program}
def aN{a b:Q}(e:a=b):Hint P:=.to .Dx a b e
def gi(h:Hint P){a b:Q}(e:a=b):Hint P:=.to h a b e
def ds{sz:Nat}{xs:List (List Q)}{i:Int}{row:List Q}(b4:wZ sz xs i row):Hint P:=.ix sz xs i row b4
def hb(d off:Nat){sz:Nat}{xs:List (List Q)}{i:Int}{row:List Q}(b4:wZ sz xs i row):Hint P:=.lo d sz xs i off row b4
def o1(d:Nat){sz:Nat}{xs:List (List Q)}{i:Int}{off:Nat}{ca:List Q}{zs:List (List Q)}(b4:FM sz xs i off ca zs){k:Nat}(hk:(k:Int)≤i):Hint P:=.so d sz xs i off ca zs b4 k hk
def cM{f:FuncId}{σs:Y}{dx:List Q}{r:Q}(b4:dT P f σs dx r)(af:c8 P f):Hint P:=.ro 0 f σs dx r b4 af
def TC(wF:Nat){f:FuncId}{σs:Y}{dx:List Q}{r:Q}(b4:dT P f σs dx r)(af:c8 P f):Hint P:=.ro wF f σs dx r b4 af
def oW{f:FuncId}{uE dx:List Q}{r:Q}(b4:dT P f [] (dx++uE) r)(af:c8 P f):Hint P:=.rf f uE dx r b4 af
def hle(cS:dg){f:FuncId}{dx:List Q}{r:Q}(b4:dT P f [] dx r)(af:c8 P f):Hint P:=.le cS f dx r b4 af
def DU{E:Nat}{k:IntKind}{bH:List (Q×Q)}{n:Int}{a:Q}{b:Bool}(b4:FK P E k bH n a b):Hint P:=.lk E k bH n a b b4
def DV{k:IntKind}{bH:List (Q×Q)}{n:Int}{v:Q}{me:List (Q×Q)}(b4:CY k bH n v me):Hint P:=.va k bH n v me b4
def zc{sz:Nat}{xs zs:List (List Q)}{a b:Int}(b4:td sz xs a b zs):Hint P:=.s3 sz xs a b zs b4
def Vi{k:IntKind}{bH:List (Q×Q)}{n:Int}(b4:FL k bH n):Hint P:=.lm k bH n b4
def ajO(cS news:dg){f:FuncId}{dx:List Q}{r:Q}{σ2:Y}(b4:eP P f [] dx (λa az=>a=r∧az=σ2))(af:c8 P f)(AQ:x8 σ2):Hint P:=.dl cS news f dx r σ2 b4 af AQ
def fM(news:dg){f:FuncId}{dk:Y}{dx:List Q}{r:Q}{σ2:Y}(b4:eP P f dk dx (λa az=>a=r∧az=σ2))(af:c8 P f):Hint P:=.mA news f dk dx r σ2 b4 af
def oE(d2:Nat){sz bytes:Nat}{xs bx zs:List (List Q)}(b4:Ap sz bytes xs bx zs):Hint P:=.ap d2 sz bytes xs bx zs b4
def xC(d2:Nat){sz:Nat}{xs:List (List Q)}{a:Int}{zs:List (List Q)}(b4:td sz xs a (xs.length:Int) zs):Hint P:=.ws d2 sz xs a zs b4
def iA{sz:Nat}{xs:List (List Q)}{a b:Int}{zs:List (List Q)}(b4:td sz xs a b zs):Hint P:=.sl sz xs a b zs b4
end
variable {α:Type}{l:List α}
def iC{j:Nat}{x:α}(h:l[j]?=some x):decide ((j:Int)<(l.length:Int))=true:=by
 obtain⟨h1,_⟩:=List.getElem?_eq_some_iff.1 h;exact decide_eq_true (by omega)
def iB{j:Nat}(h:l.length≤j):decide ((j:Int)<(l.length:Int))=false:=decide_eq_false (by omega)
variable {h i:Int}
def ala(cA:i<h+1):decide (i≤h)=true:=decide_eq_true (by omega)
def AT(cA:h≤i):decide (i<h)=false:=decide_eq_false (by omega)
def ai5(cA:h+1≤i):decide (i≤h)=false:=decide_eq_false (by omega)
def ami(e:jS α){m:List α}{a:Int}(h:ug l a (l.length:Int)=some m):td e.sz (ax e l) a ((ax e l).length:Int) (ax e m):=by rw[oz];exact sl e h
def Fp(P:Program)(T:Nat):List (Nat×Nat)→Nat→Prop
 |[],_=>True
 |(off,_)::r,n=>gM P T n off∧Fp P T r (n+1)
def Fp.get{P:Program}{T:Nat}:∀{fG:List (Nat×Nat)} {n f off sz:Nat},Fp P T fG n→fG[f]?=some (off,sz)→gM P T (n+f) off
 |[],_,_,_,_,_,h=>by simp at h
 |(o,s)::r,n,0,off,sz,cA,h=>by simp at h;obtain⟨rfl,rfl⟩:=h;exact cA.1
 |(o,s)::r,n,f+1,off,sz,cA,h=>by
  have:=Fp.get (f:=f) (off:=off) (sz:=sz) cA.2 (by simpa using h)
  rwa [Nat.add_right_comm,Nat.add_assoc]at this
def E3(P:Program)(T:Nat):List (Nat×Nat)→qS→Nat→Prop
 |(off,sz)::r,dG::s,n=>gH P T n off sz dG∧E3 P T r s (n+1)
 |_,_,_=>True
def E3.get{P:Program}{T:Nat}:∀{fG:List (Nat×Nat)} {qH:qS} {n f off sz:Nat} {dG:Bool},E3 P T fG qH n→fG[f]?=some (off,sz)→qH[f]?=some dG→gH P T (n+f) off sz dG
 |[],_,_,_,_,_,_,_,h,_=>by simp at h
 |_::_,[],_,_,_,_,_,_,_,h=>by simp at h
 |(o,s)::r,g::qH,n,0,off,sz,dG,cA,h,b3=>by simp at h b3;obtain⟨rfl,rfl⟩:=h;subst b3;exact cA.1
 |(o,s)::r,g::qH,n,f+1,off,sz,dG,cA,h,b3=>by
  have:=E3.get (f:=f) (off:=off) (sz:=sz) (dG:=dG) cA.2 (by simpa using h) (by simpa using b3)
  rwa [Nat.add_right_comm,Nat.add_assoc]at this
def mV{P:Program}{T:Nat}{zs:dZ}{fG:List (Nat×Nat)}{qH:qS}(h1:kE P T zs fG)(D:Fp P T fG 0)(aj:E3 P T fG qH 0):mG P T (.struct zs fG qH):=
 ⟨h1,λf off sz h=>by have:=D.get h;rwa [Nat.zero_add]at this,λf off sz dG h b3=>by have:=aj.get h b3;rwa [Nat.zero_add]at this⟩
variable {args:List Q}{f:FuncId}
def avc{P:Program}{iq σ2 σ3:Y}{r r':Q}(c5:dg)(h:eP P f iq args (λa az=>a=r∧az=σ2))(X:jG σ3.ids (σ2.freeze c5) r=some r')(ay:(σ2.freeze c5).at σ3.ids=some σ3):
  eP P f iq args (λa az=>a=r'∧az=σ3):=λcx w I β vs h1 D=>Calls.mono (h cx w I β vs h1 D) λ_ _ ⟨v,he,x1,az,aU,β',⟨ak,ar⟩,aM,aK⟩=>by
 subst ak ar;obtain⟨CW,hle,an⟩:=aK.Ie c5;refine⟨v,he,r',σ3,CW,β',⟨rfl,rfl⟩,(tX X).rep an v (BL hle (hp.refl β') _ _ aM),an.sub λd o Z=>?_⟩;obtain⟨p,cQ,dM,eH⟩:=sI σ3 d o Z;rw[←dM,←eH];exact(asR ay).1.mem p cQ
def oP.at{P:Program}{f:FuncId}{iq σ2:Y}{args:List Q}{r:Q}(l:List (Nat×Nat))(h:eP P f iq args (λa az=>a=r∧az=σ2)):
  eP P f (iq.cN (q6 l)) (q1 (q6 l) args) (λa az=>a=r.cN (q6 l)∧az=σ2.cN (q6 l)):=
 (h.at l).mono λa s cA=>by
  obtain⟨a0,kk,⟨rfl,rfl⟩,h1,D⟩:=cA;exact⟨h1,D⟩
def wO(bP:g4)(env:ah)(σ:Y):ResultVar→Option Q
 |.tmp t=>env.find t
 |.cell a T=>match env.find a with
  |some (.ptr d 0)=>(match σ.get d with
   |some (.cells _ cs)=>(match bP.get T with
    |some i=>bif Nat.beq cs.length i.sz&&(i.dG||Nat.blt 0 i.sz)then pe i.dG i.sz cs else none
    |none=>none)
   |_=>none)
  |_=>none
def F2(bP:g4)(env:ah)(σ:Y):List ResultVar→Option (List Q)
 |[]=>some []
 |a::r=>match wO bP env σ a with|none=>none|some x=>match F2 bP env σ r with|none=>none|some xs=>some (x::xs)
def Ky(bP:g4)(env:ah)(σ:Y):List ResultVar→Option Q
 |[]=>some (.cI [])
 |[a]=>wO bP env σ a
 |[a,b]=>match wO bP env σ a with|none=>none|some x=>match wO bP env σ b with|none=>none|some y=>some (.cI [x,y])
 |[a,b,c]=>match wO bP env σ a with|none=>none|some x=>match wO bP env σ b with|none=>none|some y=>match wO bP env σ c with|none=>none|some z=>some (.cI [x,y,z])
 |a::b::c::d::r=>match F2 bP env σ (a::b::c::d::r)with|none=>none|some xs=>some (.cI xs)
variable {a:Q}
def zO{P:Program}{N:Nat}{ids:dg}{bP:g4}(bb:jT P bP){env:ah}{σ:Y}{v:ResultVar}(h:wO bP env σ v=some a):qv ⟨P,N,ids⟩ env σ v a:=by
 cases v with
 |tmp t=>exact JF.tmp h
 |cell p T=>
  simp only[wO]at h;split at h
  ·rename_i d aC;split at h
   ·rename_i aV cs Z;split at h
    ·rename_i i aQ;generalize U:(Nat.beq cs.length i.sz&&_)=eM at h;cases eM with
     |false=>cases h
     |true=>
      simp only[cond_true]at h;rw[Bool.and_eq_true]at U;exact JF.cell (jF.get bb.tys aQ).ty (asM aC) Z U.1 U.2 h
    ·cases h
   ·cases h
  ·cases h
def Q8{P:Program}{N:Nat}{ids:dg}{bP:g4}(bb:jT P bP){env:ah}{σ:Y}:∀{l:List ResultVar} {xs:List Q},F2 bP env σ l=some xs→Af ⟨P,N,ids⟩ env σ l xs
 |[],xs,h=>by cases h;exact .nil
 |a::r,xs,h=>by
  simp only[F2]at h;split at h
  ·cases h
  ·rename_i x u;split at h
   ·cases h
   ·rename_i bx ag;cases h;exact .cons (zO bb u) (Q8 bb ag)
def acq{P:Program}{N:Nat}{ids:dg}{bP:g4}(bb:jT P bP){env:ah}{σ:Y}{l:List ResultVar}(h:Ky bP env σ l=some a):us ⟨P,N,ids⟩ env σ l a:=by
 unfold Ky at h;split at h
 ·cases h;exact .zero
 ·exact .one (zO bb h)
 ·split at h
  ·cases h
  ·rename_i x u;split at h
   ·cases h
   ·rename_i y ag;cases h;exact .two (zO bb u) (zO bb ag)
 ·split at h
  ·cases h
  ·rename_i x u;split at h
   ·cases h
   ·rename_i y ag;split at h
    ·cases h
    ·rename_i z hz;cases h;exact .three (zO bb u) (zO bb ag) (zO bb hz)
 ·split at h
  ·cases h
  ·rename_i xs zi;cases h;exact .more (Q8 bb zi) (by simp)
def KO(bP:g4)(ids:dg)(kJ:List oO)(cS:dg)(l:List ResultVar)(env:ah)(σ:Y):Option (Q×Y):=match Ai ids kJ env σ with
 |none=>none
 |some (e,s)=>match Ky bP e s l with
  |none=>none
  |some a=>match jG cS s a with
   |none=>none
   |some b=>match s.at cS with
    |none=>none
    |some eg=>some (b,eg)
def pW(G:ch)(fn:Func)(hL:Q→Y→Prop):Exit→ah→Y→Prop:=λe env σ=>∃dB σ2,cr G env σ dB σ2∧Q1 G fn hL e dB σ2
variable {fn:Func}
def asy{P:Program}{N:Nat}{ids:dg}{bP:g4}(bb:jT P bP){env:ah}{σ σ2:Y}{R:Q}{e:Exit}(kJ:List oO)(he:(match e with|.ret|.normal=>true|_=>false)=true)(h:KO bP ids kJ σ2.ids fn.results.toList env σ=some (R,σ2)):
  pW ⟨P,N,ids⟩ fn (λa az=>a=R∧az=σ2) e env σ:=by
 simp only[KO]at h;split at h
 ·cases h
 ·rename_i aJ dW hm;split at h
  ·cases h
  ·rename_i a ay;split at h
   ·cases h
   ·rename_i b U;split at h
    ·cases h
    ·rename_i eg X;cases h;refine⟨aJ,dW,E2 hm,?_⟩;have key:∃c5 x r az,us ⟨P,N,ids⟩ aJ (dW.freeze c5) fn.results.toList x∧iw (dW.freeze c5) x r∧(∀p∈az,(dW.freeze c5).get p.1=some p.2)∧(r=R∧az=σ2):=by
      refine⟨[],a,R,σ2,?_,?_,?_,rfl,rfl⟩
      ·rw[atl];exact acq bb ay
      ·rw[atl];exact tX U
      ·rw[atl];exact(asR X).1.mem
     cases e<;>first|exact key|cases he
def dY{P:Program}{c:Code}{iq:Y}{hL:Q→Y→Prop}(bm:P.funcs[f]?=some fn)(U:fn.body=some c)(sA:Nat.ble args.length fn.ntmps=true)
  (h:aS ⟨P,fn.ntmps,iq.ids⟩ c (pW ⟨P,fn.ntmps,iq.ids⟩ fn hL) (BX 0 args) iq):eP P f iq args hL:=
 eP.enter bm U (Nat.le_of_ble_eq_true sA) λ_=>as6 h
def acr{a b:List α}(h:jR a b=some l):l=a++b:=by
 unfold jR at h;split at h<;>simp_all
def YR{P:Program}{ej E sz:Nat}{xs bx:List (List Q)}(aR:∀n c w,Calls P f #[.slice none n c] w λe w'=>e=.returned (.slice none 0 0)∧w'=w)
    (ay:xs≠[]→eP P f [] [.bf false xs] (λa az=>a=.own ej∧az=[(ej,.slice E sz bx 0 false)])) (U:xs=[]→eP P f [] [.ko] (λa az=>a=.own ej∧az=[(ej,.slice E sz bx 0 false)]))
    (A9:xs=[]→bx=[]):eP P f [] [.bf false xs] (λa az=>a=.own ej∧az=[(ej,.slice E sz bx 0 false)]):=by
  intro cx w I β vs an aB;by_cases u:xs=[]
  · have ag:=A9 u
    subst u ag;simp only[bW,au,bc]at aB;obtain⟨aA,bI,rfl,⟨a,c,rfl,_,aj,_,_⟩,rfl⟩:=aB;cases a with
    |some p=>exact U rfl cx w I β _ an (by simp only[bW,au,bc];exact⟨_,_,rfl,⟨_,_,rfl,aj⟩,rfl⟩)
    |none=>
      refine Calls.mono (aR _ _ w) ?_;rintro e w' ⟨rfl,rfl⟩;refine⟨_,rfl,.own ej,_,I,λd=>if d=ej then .slice none 0 0 else β d,⟨rfl,rfl⟩,by simp[au,iD],?_⟩
      exact{an with
        cw:=λx o h=>by
          rw[asw]at h;split at h
          · rename_i e;subst e;injection h with h;subst h
            simp only[aY,if_true];exact .inr (.inl ⟨trivial,trivial,trivial⟩)
          · simp[Y.get]at h
        dA:=λx y u ag cb b U ha=>by
          rw[asw]at u ag;split at u
          · rename_i e;subst e
            split at ag
            · rename_i cB;exact cb cB
            · simp[Y.get]at ag
          · simp[Y.get]at u
        keep:=λd Z=>by simp[Y.ids]at Z}
  · exact ay u cx w I β vs an aB
def ag5(bq:Exit→ah→Y→Prop):Exit→ah→Y→Prop
 |.goto _,_,_=>False
 |e,env,σ=>bq e env σ
def A.scope{G:ch}{c:Code}{bq:Exit→ah→Y→Prop}{env:ah}{σ:Y}(h:aS G c (ag5 bq) env σ):aS G (.scope c) bq env σ:=by
 refine asT λcx a w aB=>wp_scope_straight (wp_mono (aS.use h cx a w aB) ?_);rintro e gE w' ⟨gy,az,nE,bV⟩;cases e<;>first|exact⟨gy,az,nE,bV⟩|exact bV.elim
def A.label{G:ch}{l:Nat}{bq:Exit→ah→Y→Prop}{env:ah}{σ:Y}(h:bq .normal env σ):aS G (.label l) bq env σ:=asT λ_ _ _ aB=>wp_label ⟨env,σ,aB,h⟩
end
end
section
set_option linter.all false
open Go Go.ChangeShapes Go.WideShapes Go.ChangeAt Go.RowKit List
structure w5(P:Program)(T:Nat){α:Type}(enc:α→List Q)(n:Nat):Prop where
 cells:P.cellsOf T=n
 read:∀(H:Type) (mU:TypeId×Value→H) (w:World) (g0:Nat) (mN:Nat→Bool) (Z:Bool) (fuel:Nat) (cs:dZ) (x:DataW H×List MemPlace),
  DataW.trod mU P w g0 mN Z fuel T cs=some x→∃a:α,cV (h2 w) (enc a) cs
variable {P:Program}{T:Nat}
def abz{k:IntKind}(h:P.underlying T=some (.int k))(af:P.cellsOf T=1):w5 P T (λn:Int=>[.int k n]) 1:=by
 refine⟨af,λH mU w g0 mN Z fuel cs x u=>?_⟩;cases fuel with
 |zero=>cases u
 |succ n=>
  unfold DataW.trod at u;rw[h]at u;split at u<;>first|(simp at u;done)|skip
  all_goals (rename_i he;cases he)
  rename_i dS m;split at u
  ·rename_i hk;obtain⟨rfl,_⟩:=hk
   exact⟨m,by simp[cV,bc]⟩
  ·cases u
def MG{α β:Type}{f:α→Option β}:∀{l:List α} {r:List β},l.mapM f=some r→r.length=l.length∧∀(i:Nat) (a:α),l[i]?=some a→∃b:β,f a=some b∧r[i]?=some b
 |[],r,h=>by simp at h;subst h;exact⟨rfl,λi a hi=>by simp at hi⟩
 |x::l,r,h=>by
  rw[mapM_cons]at h;cases u:f x with
  |none=>rw[u]at h;cases h
  |some y=>
   rw[u]at h;cases aH:l.mapM f with
   |none=>rw[aH]at h;cases h
   |some bx=>
    rw[aH]at h;cases h;obtain⟨h1,D⟩:=MG aH;refine⟨by simp[h1],λi a hi=>?_⟩;cases i with
    |zero=>simp at hi;subst hi;exact⟨y,u,rfl⟩
    |succ i=>simpa using D i a (by simpa using hi)
def WO{α β:Type}{p:Nat→β→Prop}:∀(n:Nat),(∀i,i<n→∃b,p i b)→∃l:List β,l.length=n∧∀i b,l[i]?=some b→p i b
 |0,_=>⟨[],rfl,λi b h=>by simp at h⟩
 |n+1,h=>by
  obtain⟨l,h1,D⟩:=WO (α:=α) n (λi hi=>h i (by omega));obtain⟨b,U⟩:=h n (by omega);refine⟨l++[b],by simp[h1],λi c af=>?_⟩;by_cases hi:i<n
  ·rw[List.getElem?_append_left (by omega)]at af;exact D i c af
  ·have:i=n:=by
    have:=(List.getElem?_eq_some_iff.1 af).1;simp at this;omega
   subst this;rw[List.getElem?_append_right (by omega)]at af;simp[h1]at af;subst af;exact U
variable {a:Addr}
def YS{w:World}{g0:Nat}{n:Nat}{cs:dZ}(h:w.cells? g0 a n=some cs):cs.length=n∧∀i v,cs[i]?=some v→w.cell? (a.add i)=some v:=by
 unfold World.cells? at h;split at h
 ·obtain⟨h1,D⟩:=MG h;have aH:cs.length=n:=by simpa using h1
  refine⟨aH,λi v aa=>?_⟩;have hi:i<n:=by rw[←aH];exact(List.getElem?_eq_some_iff.1 aa).1
  obtain⟨b,ak,ar⟩:=D i i (by simp[hi]);rw[aa]at ar;cases ar;exact ak
 ·cases h
def Wx{α:Type}{I:bs}{b sz:Nat}{enc:α→List Q}:∀(l:List α) (o:Nat),(∀r,(enc r).length=sz)→(∀i a,l[i]?=some a→k4 I b (enc a) (o+i*sz))→jC I b (l.map enc) o
 |[],_,_,_=>trivial
 |x::r,o,hz,h=>by
  simp only[map_cons,jC];refine⟨by simpa using h 0 x rfl,?_⟩;rw[hz x];refine Wx r (o+sz) hz λi a ay=>?_;have:=h (i+1) a (by simpa using ay)
  rwa [Nat.add_mul,Nat.one_mul,Nat.add_comm (i*sz),←Nat.add_assoc]at this
def aal(h:a.spot=none)(i:Nat):a.add i=⟨a.block,a.off+i,none⟩:=by
 obtain⟨b,o,s⟩:=a;simp only at h;subst h;exact mc b o i
variable {E:Nat}{α:Type}
def YT{e:jS α}(h:P.underlying T=some (.slice E))(af:P.cellsOf T=1)(iP:w5 P E e.enc e.sz)(aC:0<e.sz):w5 P T (λl:List α=>[.bf false (ax e l)]) 1:=by
 refine⟨af,λH mU w g0 mN Z fuel cs x u=>?_⟩;cases fuel with
 |zero=>cases u
 |succ n=>
  unfold DataW.trod at u;rw[h]at u;split at u<;>first|(simp at u;done)|skip
  all_goals (rename_i he;try cases he)
  ·refine⟨[],?_⟩;simp only[cV,bc,ax,map_nil];exact⟨_,_,rfl,⟨none,0,rfl,by simp,by simp[maxLen],by simp,by simp⟩,rfl⟩
  ·rename_i a len aO;split at u
   ·rename_i U;obtain⟨_,h1,D⟩:=U;dsimp only at u;generalize hm:(List.range len).mapM (λi=>(w.cells? g0 (a.add (i*P.cellsOf E)) (P.cellsOf E)).bind (DataW.trod mU P w g0 mN Z n E))=jJ at u;cases jJ with
    |none=>cases u
    |some aiQ=>
     obtain⟨ak,ar⟩:=MG hm;have aH:aiQ.length=len:=by simpa using ak
     have key:∀i,i<len→∃b:α,∃row:dZ,cV (h2 w) (e.enc b) row∧∀j v,row[j]?=some v→w.cell? ((a.add (i*P.cellsOf E)).add j)=some v:=λi hi=>by
      obtain⟨z,np,_⟩:=ar i i (by simp[hi]);cases aB:w.cells? g0 (a.add (i*P.cellsOf E)) (P.cellsOf E)with
      |none=>rw[aB]at np;cases np
      |some row=>
       rw[aB]at np;obtain⟨b,U⟩:=iP.read H mU w g0 mN Z n row z np;exact⟨b,row,U,(YS aB).2⟩
     obtain⟨l,o9,ji⟩:=WO (α:=Unit) len key;refine⟨l,?_⟩;simp only[cV,bc];refine⟨_,_,rfl,⟨some a,aO,by rw[oz,o9],by rw[oz,o9];exact h1,D,by simp,?_⟩,rfl⟩;by_cases bM:len=0
     ·left;have:l=[]:=eq_nil_of_length_eq_zero (by omega);subst this;rfl
     ·right;have tQ:a.spot=none:=by
       obtain⟨b,row,gJ,gA⟩:=key 0 (by omega);have zb:row.length=e.sz:=by rw[qa _ _ gJ,e.hz]
       cases iz:row with
       |nil=>rw[iz]at zb;simp at zb;omega
       |cons aA bI=>
        have:=gA 0 aA (by rw[iz];rfl);simp only[Nat.zero_mul,Addr.add,if_true]at this;simp only[World.cell?]at this;split at this
        ·split at this
         ·cases this
         ·rename_i X;cases aqL:a.spot<;>simp_all
        ·cases this
      refine⟨a.block,a.off,?_,?_⟩
      ·obtain⟨b,o,s⟩:=a;simp only at tQ;subst tQ;rfl
      ·refine Wx l a.off e.hz λi c af=>?_;obtain⟨row,gJ,gA⟩:=ji i c af;refine Ih _ _ row gJ λj v aa=>?_;have:=gA j v aa;rw[iP.cells,aal tQ,mc]at this;exact this
   ·cases u
structure FI(P:Program)(T:Nat){α:Type}(bN:α→Q)(ok:α→Prop):Prop where
 read:∀(H:Type) (mU:TypeId×Value→H) (w:World) (g0:Nat) (v:Value) (d:DataW H) (ps:List MemPlace),Value.okWide P w .any g0 T v→DataW.Trod mU P w 0 (λ_=>true) true T v d ps→∃a:α,ok a∧bc (h2 w) (bN a) v
def abA{bN:α→Q}(ai:w5 P T (λa=>[bN a]) 1)(hk:∀w g0 v,Value.okWide P w .any g0 T v→v.cells=#[v]):FI P T bN (λ_=>True):=by
 refine⟨λH mU w g0 v d ps aa Z=>?_⟩;obtain⟨fuel,Z⟩:=Z;obtain⟨a,ay⟩:=ai.read _ _ _ _ _ _ _ _ _ Z;rw[hk w g0 v aa]at ay;simp only[cV]at ay;obtain⟨aA,bI,h1,D,rfl⟩:=ay;simp at h1;subst h1;exact⟨a,trivial,D⟩
def YU(h:P.underlying T=some (.slice E))(w:World)(g0:Nat)(v:Value)(aa:Value.okWide P w .any g0 T v):v.cells=#[v]:=by
 simp only[Value.okWide,h,Cell.okWide,Cell.ok]at aa;cases v<;>first|rfl|(simp at aa;done)
structure Dm(P:Program)(ts:List Nat){β:Type}(dx:β→List Q)(ok:β→Prop):Prop where
 read:∀(H:Type) (mU:TypeId×Value→H) (w:World) (g0:Nat) (vs:dZ) (cS:List (DataW H)) (ps:List MemPlace),(∀(j:Nat) t v,ts[j]?=some t→vs[j]?=some v→Value.okWide P w .any g0 t v)→
  DataW.TrodAll mU P w 0 (λ_=>true) true ts vs cS ps→∃b:β,ok b∧cV (h2 w) (dx b) vs
def aam:Dm P [] (λ_:Unit=>[]) (λ_=>True):=⟨λ_ _ _ _ vs cS _ _ h=>by
 cases vs<;>cases cS<;>first|exact⟨(),trivial,rfl⟩|exact h.elim⟩
variable {β:Type}
def YV{ts:dg}{jU:α→Q}{a2:β→List Q}{hI:α→Prop}{fW:β→Prop}(h1:FI P T jU hI)(D:Dm P ts a2 fW):Dm P (T::ts) (λp:α×β=>jU p.1::a2 p.2) (λp=>hI p.1∧fW p.2):=by
 refine⟨λH mU w g0 vs cS ps aa h=>?_⟩;cases vs with
 |nil=>cases cS<;>exact h.elim
 |cons v vs=>
  cases cS with
  |nil=>exact h.elim
  |cons d cS=>
   obtain⟨p,q,ak,ar,_⟩:=h;obtain⟨a,vi,ay⟩:=h1.read H mU w g0 v d p (aa 0 T v rfl rfl) ak;obtain⟨b,aX,U⟩:=D.read H mU w g0 vs cS q (λj t v h b3=>aa (j+1) t v (by simpa using h) (by simpa using b3)) ar;exact⟨(a,b),⟨vi,aX⟩,by simp only[cV];exact⟨v,vs,rfl,ay,U⟩⟩
def Wy{H:Type}{enc:TypeId×Value→H}{P:Program}(aH:laidOutB P=true){bb W':World}{mN:Nat→Bool}(U:Below bb.heap.size bb W'):∀{ts:dg} {vs:dZ} {cS:List (DataW H)} {ps:List MemPlace},(∀t∈ts,P.readableRec t=true∧t<P.types.size)→
  DataW.TrodAll enc P bb 0 (λ_=>true) true ts vs cS ps→(∀x∈ps,x.block<bb.heap.size)→(∀x∈ps,mN x.block=true)→DataW.TrodAll enc P W' 0 mN true ts vs cS ps
 |[],vs,cS,ps,_,h,_,_=>by cases vs<;>cases cS<;>exact h
 |t::ts,vs,cS,ps,bE,h,bL,X=>by
  cases vs with
  |nil=>cases cS<;>exact h.elim
  |cons v vs=>
   cases cS with
   |nil=>exact h.elim
   |cons d cS=>
    obtain⟨p,q,ak,ar,rfl⟩:=h;have h1:=bE t (by simp)
    exact⟨p,q,WideElems.Trod_stays aH h1.1 h1.2 ak (λx u=>U.same (bL x (by simp[u]))) (λx u=>X x (by simp[u])),
     Wy aH U (λt Me=>bE t (by simp[Me])) ar (λx u=>bL x (by simp[u])) (λx u=>X x (by simp[u])),rfl⟩
variable {Ay f:Nat}{H:Type}{enc:TypeId×Value→H}{fn:Func}
def YW{s:ChangeSpec}(aH:laidOutB P=true)(aB:fn.resultTypes=#[Ay])(dc:P.underlying Ay=some .bool)(G4:s.vars=[])
    (L7:∀t∈fn.params.toList,P.readableRec t=true∧t<P.types.size) {bb:World} {args:iY} (eo:∃l:List Q,cV (h2 bb) l args.toList∧dT P f [] l (.bool true))
    (J1:∀cS:List (DataW H),cS.length=fn.params.size→(s.fn H cS).results=[.lit (.bool true)]∧(s.fn H cS).args=cS∧(s.fn H cS).vars=[])
    (g0:Nat) (cS gs:List (DataW H)) (vD:List MemPlace) (o2:∀(j:Nat) t v,fn.params[j]?=some t→args[j]?=some v→Value.okWide P bb .any g0 t v)
    (kg:DataW.Whole enc P fn.params.toList s.vars false bb args.toList cS gs vD) :
    Calls P f args bb λe W'=>∃v,e=.returned v∧s.post enc P fn false true false false bb args v W':=by
  have LH:=kg;obtain⟨p,q,aQ,GH,rfl,aqB,fR⟩:=kg;rw[G4]at GH;obtain⟨rfl,rfl⟩:=trodVars_none GH;simp only[append_nil]at LH;obtain⟨l,U,KP⟩:=eo
  have fB:bY ⟨P,0,[]⟩ (nY (h2 bb) (λ_=>.nilFunc) [] bb) (h2 bb) (λ_=>.nilFunc) [] bb:=
    {good:=BE,hM:=Bs,jg:=cn.refl _,iV:=λ_ _ _ _=>rfl,frame:=λ_ _ _=>rfl,size:=Nat.le_refl _,tape:=rfl,os:=rfl,output:=rfl,drawn:=Nat.le_refl _,
     cw:=λd o Z=>by simp[Y.get]at Z,dA:=λd dh Z=>by simp[Y.get]at Z,keep:=λd Z=>by simp at Z}
  have af:=KP _ bb (h2 bb) (λ_=>.nilFunc) args.toList fB U.Kv;rw[Array.toArray_toList]at af;refine Calls.mono af ?_;rintro e W' ⟨v,rfl,r,az,aU,β',⟨rfl,rfl⟩,kD,e1⟩;have aa:=xM kD;subst aa;have TD:Below bb.heap.size bb W':=⟨e1.os,e1.tape,e1.output,e1.size,λk hk=>e1.frame k hk (by simp[nY,u2,Y.ids])⟩;have eA:cS.length=fn.params.size:=by
    have key:∀(ts:dg) (vs:dZ) (cS:List (DataW H)) (ps:List MemPlace),DataW.TrodAll enc P bb 0 (λ_=>true) true ts vs cS ps→cS.length=ts.length:=by
      intro ts;induction ts with
      |nil=>intro vs cS ps h;cases vs<;>cases cS<;>first|rfl|exact h.elim
      |cons t ts bg=>
        intro vs cS ps h;cases vs<;>cases cS<;>first|exact h.elim|skip
        obtain⟨_,_,_,ar,_⟩:=h;simp[bg _ _ _ ar]
    simpa using key _ _ _ _ aQ
  obtain⟨aJ,e2,dm⟩:=J1 cS eA;have bL:∀x∈p,x.block<bb.heap.size:=λx u=>by simpa using LH.lt x u
  have akE:∀(b:Nat) (mN:Nat→Bool) (Z:Bool),DataW.TrodAll enc P W' b mN Z fn.resultTypes.toList ((Value.bool true).resultList fn.resultTypes.size) [DataW.lit (.bool true)] []:=λb mN Z=>by
    rw[aB];exact trodAll_mk1 (shut_bool dc true)
  have lX:∀mN:Nat→Bool,(∀x∈p,mN x.block=true)→DataW.TrodAll enc P W' 0 mN true fn.params.toList args.toList cS p:=λmN tQ=>Wy aH TD L7 aQ bL tQ;have jv:=ok_one (P:=P) (W':=W') aB rfl (okWide_bool_mk dc true);have ajp:∀mN:Nat→Bool,DataW.TrodVars enc P W' mN s.vars (s.fn H cS).vars []:=λmN=>by rw[G4,dm];rfl
  refine⟨_,rfl,cS,[],p,[],p,[],by simpa using LH,?_,?_,?_,World.keptBut_mono (λx u=>⟨u,.inr (.inl u)⟩) (TD.frame (·∈p)),λh=>by cases h⟩
  · rw[append_nil,aJ];exact akE _ _ _
  · rw[append_nil,e2];exact lX _ (λx u=>by simpa using bL x u)
  · rw[append_nil];exact ajp _
def aan{s:ChangeSpec}{dx:β→List Q}{ok:β→Prop}(aH:laidOutB P=true)(aB:fn.resultTypes=#[Ay])(dc:P.underlying Ay=some .bool)(G4:s.vars=[])
  (L7:∀t∈fn.params.toList,P.readableRec t=true∧t<P.types.size) (eo:Dm P fn.params.toList dx ok) (KP:∀b,ok b→dT P f [] (dx b) (.bool true))
  (J1:∀cS:List (DataW H),cS.length=fn.params.size→(s.fn H cS).results=[.lit (.bool true)]∧(s.fn H cS).args=cS∧(s.fn H cS).vars=[])
  (bb:World) (g0:Nat) (args:iY) (cS gs:List (DataW H)) (vD:List MemPlace) (o2:∀(j:Nat) t v,fn.params[j]?=some t→args[j]?=some v→Value.okWide P bb .any g0 t v)
  (kg:DataW.Whole enc P fn.params.toList s.vars false bb args.toList cS gs vD) :
  Calls P f args bb λe W'=>∃v,e=.returned v∧s.post enc P fn false true false false bb args v W':=by
 refine YW aH aB dc G4 L7 ?_ J1 g0 cS gs vD o2 kg;obtain⟨p,q,aQ,_⟩:=kg;obtain⟨b,h1,D⟩:=eo.read H enc bb g0 args.toList cS p (λj t v h b3=>o2 j t v (by simpa using h) (by simpa using b3)) aQ;exact⟨_,D,KP b h1⟩
end
section
set_option linter.all false
open Go Go.ChangeShapes Go.WideShapes Go.ChangeAt Go.RowKit List
structure XB(P:Program)(T:Nat){α:Type}(enc:α→List Q)(n:Nat)(bd:α→Prop):Prop where
 cells:P.cellsOf T=n
 read:∀(H:Type) (mU:TypeId×Value→H) (w:World) (g0:Nat) (mN:Nat→Bool) (Z:Bool) (fuel:Nat) (cs:dZ) (x:DataW H×List MemPlace),
  DataW.trod mU P w g0 mN Z fuel T cs=some x→(∀k∈x.1.weights P T,k≤reachBytes)→∃a:α,bd a∧cV (h2 w) (enc a) cs
variable {P:Program}{T:Nat}{α:Type}
def w5.wide{enc:α→List Q}{n:Nat}(h:w5 P T enc n):XB P T enc n (λ_=>True):=
 ⟨h.cells,λH mU w g0 mN Z fuel cs x u _=>by obtain⟨a,ay⟩:=h.read H mU w g0 mN Z fuel cs x u;exact⟨a,trivial,ay⟩⟩
structure Xo(P:Program)(T:Nat){α:Type}(bN:α→Q)(ok:α→Prop):Prop where
 read:∀(H:Type) (mU:TypeId×Value→H) (w:World) (g0:Nat) (v:Value) (d:DataW H) (ps:List MemPlace),Value.okWide P w .any g0 T v→DataW.Trod mU P w 0 (λ_=>true) true T v d ps→(∀k∈d.weights P T,k≤reachBytes)→∃a:α,ok a∧bc (h2 w) (bN a) v
def FI.wide{bN:α→Q}{ok:α→Prop}(h:FI P T bN ok):Xo P T bN ok:=⟨λH mU w g0 v d ps h1 D _=>h.read H mU w g0 v d ps h1 D⟩
end
section
set_option linter.all false
open Go List
variable {P:Program}{bP:g4}
def MH(op:Op)(env:ah):Option (c7×cZ):=match op with
 |.makeFunc (.func f) first aO=>match first.toList with
  |[x]=>(match aO.toList with
   |[]=>(match env.cW x with
    |some (.ptr d 0)=>some (.y [] (.fR (.Kz f) d),([],[]))
    |_=>none)
   |_=>none)
  |_=>none
 |_=>none
variable {N:Nat}{aX:cZ}{env:ah}{o:Oper}{σ:Y}
def adE{ids:dg}{s:c7}(h:MH o.op env=some (s,aX)):fP ⟨P,N,ids⟩ o env σ s:=by
 unfold MH at h;split at h
 ·rename_i f first aO ai;split at h
  ·rename_i x bm;split at h
   ·rename_i af;split at h
    ·rename_i d u;cases h;have aJ:first=#[x]:=by simpa using congrArg toArray bm
     have e2:aO=#[]:=by simpa using congrArg toArray af
     subst aJ e2;refine Yields.pure λaz cx I β w aZ cf an hop=>?_;have h1:=hop x (by simp[ai,Op.operands]);rw[asv u]at h1
     simp only[au,ot.rep]at h1;obtain⟨b,h1,D⟩:=h1;exact⟨.func (.func f) #[aZ x] #[],by simp[execOp,ai,Instr.makeFunc],by simp only[au,ot.rep];exact⟨b,h1,by rw[D]⟩⟩
    ·cases h
   ·cases h
  ·cases h
 ·cases h
def Vl:Hint P:=.gs false ([],[]) (λ_ op env _=>MH op env) λ_ _ _ _ _ _ _ h _=>adE h
variable {G:ch}
def auW{ev:Operand→Q}{T E sz len d:Nat}{parts:Array (Nat×Operand)}{zs:dZ}{xs:List (List Q)}(h:o.op=.buildSlice T len parts)(aQ:ml G.P T E sz zs)(aH:parts.size=len)(X:len*sz≤65536∧len≤65536)
  (bm:u6 sz 0 (parts.toList.map λp=>(p.1,ev p.2))=some xs) (aB:o6 (Nat.beq d) xs.flatten=false) (hi:G.ids.contains d=false):Yields G o ev ((d,.cells E xs.flatten)::σ) [d] [d] (.fR (.AH len) d):=by
 intro az cx I β w aZ cf an hm hop;have h1:∀p∈parts.toList,au I β (ev p.2) (aZ p.2):=λp aC=>hop p.2 (by simp only[h,Op.operands];simpa using ⟨p.1,by simpa using aC⟩);obtain⟨z,i4,h9⟩:=aQ.zero w
 let L:iY:=(Array.range (len*sz)).map ((if len*sz=0 then #[]else z.cells)[·%(if len*sz=0 then #[]else z.cells:iY).size]!)
 have tE:L.size=len*sz:=by simp[L]
 obtain⟨r,bI,gJ,gA,mM,pr,wE,vp⟩:=EF (I:=I) (β:=β) sz (parts.toList.map λp=>(p.1,ev p.2)) (parts.toList.map λp=>(p.1,aZ p.2)) 0 L xs
  ⟨by simp,λj p q aT bV=>by
   simp only[List.getElem?_map]at aT bV;cases u:parts.toList[j]? with
   |none=>rw[u]at aT;cases aT
   |some y=>
    rw[u]at aT bV;simp only[Option.map_some,Option.some.injEq]at aT bV;subst aT bV;exact⟨rfl,h1 y (List.mem_of_getElem? u)⟩⟩ bm (by simp[tE,aH])
 have xB:r.toList=bI:=by
  rw[mM];have mT:L.toList.drop ((0+(parts.toList.map λp=>(p.1,ev p.2)).length)*sz)=[]:=drop_of_length_le (by simp[tE,aH]);rw[mT];simp
 have eY:(execOp aZ o).run G.P w=.ok (.value (.slice (some ⟨w.heap.size,0,none⟩) len len)) (w.alloc (.cells r E)):=by
  have y5:¬(len*sz>2 ^ 24):=by have:(2:Nat) ^ 24=16777216:=by decide
                               omega
  have nF:Instr.fill (λi=>some (i*sz,sz)) L (parts.map λ(i,x)=>(i,aZ x)).toList=some r:=by simpa using gJ
  simp only[execOp,h,Instr.buildSlice,Sem.run_bind,run_underlying aQ.gY,aQ.size,Result.andThen_ok,y5,if_false];by_cases bM:len*sz=0
  ·have rG:L=(Array.range (len*sz)).map ((#[]:iY)[·%(#[]:iY).size]!):=by simp only[L,bM,if_true]
   rw[rG]at nF;simp only[bM,if_true,Sem.run_bind,Sem.run_pure,Result.andThen_ok]at nF ⊢;simp only[nF];simp[newRow]
  ·have rG:L=(Array.range (len*sz)).map (z.cells[·%z.cells.size]!):=by simp only[L,bM,if_false]
   rw[rG]at nF;simp only[bM,if_false,Sem.run_bind,i4,Sem.run_pure,Result.andThen_ok];simp only[nF];simp[newRow]
 rw[eY];have lF:=hm d (by simp);refine⟨I,g7 β d (.pointer (some ⟨w.heap.size,0,none⟩)),by simp only[au,ot.rep];exact⟨w.heap.size,by rw[gL];rfl,rfl⟩,?_,cn.refl I,λx u=>g5 β _ (λe=>u (by simp[e]))⟩;refine an.real (by simpa using hi) lF rfl λaX cC=>?_;rw[cf d (by simp),asw,if_pos rfl]at cC;injection cC with cC
 subst cC;simp only[aY,gL];refine .inr ⟨w.heap.size,r,rfl,heap_alloc_new w _,?_,λo=>an.iF (Nat.le_refl _) o,.inl an.size⟩;rw[xB];exact tW (cn.refl I) (asV lF) _ _ pr
def K3(bP:g4)(d:Nat)(ids:dg)(op:Op)(env:ah):Option (c7×cZ):=match op with
 |.buildSlice T len parts=>match bP.get T with
  |some ⟨_,_,_,.slice E sz _ _⟩=>bif Nat.beq parts.size len&&(Nat.ble (len*sz) 65536&&Nat.ble len 65536)&&!ids.contains d then(match env.sZ parts.toList with
   |none=>none
   |some ps=>match v2 sz 0 ps with
    |none=>none
    |some xs=>bif !o6 (Nat.beq d) xs.flatten then some (.v d (.cells E xs.flatten) (.fR (.AH len) d),([],[]))else none)else none
  |_=>none
 |_=>none
def adF(bb:jT P bP){d:Nat}{ids:dg}{s:c7}(h:K3 bP d ids o.op env=some (s,aX)):fP ⟨P,N,ids⟩ o env σ s:=by
 unfold K3 at h;split at h
 ·rename_i T len parts ai;split at h
  ·rename_i aQ;have hk:=(jF.get bb.tys aQ).kd;simp only[mG]at hk;generalize U:(Nat.beq parts.size len&&_&&_)=eM at h;cases eM with
   |false=>cases h
   |true=>
    simp only[cond_true]at h;rw[Bool.and_eq_true,Bool.and_eq_true]at U;split at h
    ·cases h
    ·rename_i ps aC;split at h
     ·cases h
     ·rename_i xs bm;cases af:o6 (Nat.beq d) xs.flatten with
      |true=>rw[af]at h;cases h
      |false=>
       rw[af]at h;cases h
       have hi:ids.contains d=false:=by simpa using U.2
       exact⟨hi,auW (G:=⟨P,N,ids⟩) ai hk.2.2 (by simpa using U.1.1) (by simpa using U.1.2) (by rw[as1 aC];exact EG _ bm) af hi⟩
  ·cases h
 ·cases h
def TE(bb:jT P bP)(d:Nat):Hint P:=.gs false ([],[]) (λids op env _=>K3 bP d ids op env) λ_ _ _ _ _ _ _ h _=>adF bb h
def OS(G:ch)(c:Code)(bq:Exit→ah→Y→Prop):Nat→ah→Y→Prop
 |0,_,_=>False
 |n+1,env,σ=>aS G c (qX (OS G c bq n) bq) env σ
def A.Wd{c:Code}{bq:Exit→ah→Y→Prop}{n:Nat}(h:aS G c (qX (OS G c bq n) bq) env σ):OS G c bq (n+1) env σ:=h
end
end Go.Proofs.YtmnbolcmepihlaaGreat
