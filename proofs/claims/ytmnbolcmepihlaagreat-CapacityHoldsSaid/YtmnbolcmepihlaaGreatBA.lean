/- Several texts in one. No condition but those that stand in each. -/
import Derived.Test.YtmnbolcmepihlaaGreatAB
import Derived.Lib.SliceRun
import Derived.Laws.BytesString
import Derived.Scope
namespace Go.Proofs.YtmnbolcmepihlaaGreat
set_option linter.all false
open Go
section
def bf{α β:Type}(o:Option α)(k:α→Option β):Option β:=match o with|none=>none|some a=>k a
def cR{α β:Type}(o:Option α)(k:α→Option β)(z:Option β):Option β:=match o with|none=>z|some a=>k a
def ij{β:Type}(c:Bool)(k:Option β):Option β:=bif c then k else none
def jn{σ β:Type}(k:σ→Option β)(t:(σ→Option β)→Option β):Option β:=t k
def ez{α σ β:Type}:List α→Nat→(Int→α→(σ→Option β)→σ→Option β)→(σ→Option β)→σ→Option β
 |[],_,_,K,s=>K s
 |x::r,j,B,K,s=>B (j:Int) x (ez r (j+1) B K) s
def mK{σ β:Type}:Nat→Int→(Int→(σ→Option β)→σ→Option β)→(Int→σ→Option β)→σ→Option β
 |0,i,_,K,s=>K i s
 |n+1,i,B,K,s=>B i (mK n (i+1) B K) s
def iter{σ β:Type}(F:(σ→Option β)→σ→Option β):Nat→σ→Option β
 |0,_=>none
 |n+1,s=>F (iter F n) s
def fuel:Nat:=1099511627776
def kW{σ β:Type}(F:(σ→Option β)→σ→Option β)(s:σ):Option β:=iter F fuel s
def bK(n:Int):Int:=IntKind.wrap .i64 n
def dj{α:Type}(l:List α)(i:Int):Option α:=if 0≤i then l[i.toNat]? else none
def rB{α:Type}(l:List α)(i:Int)(x:α):Option (List α):=if 0≤i∧i<l.length then some (l.set i.toNat x)else none
def aF:Nat:=549755813888
def j7{α:Type}(l r:List α):Option (List α):=if l.length+r.length≤aF then some (l++r)else none
def qo{α:Type}(l:List α)(a b:Int):Option (List α):=if 0≤a∧a≤b∧b≤l.length then some ((l.take b.toNat).drop a.toNat)else none
def Kr(s:ByteArray)(n:Int):Option UInt8:=if 0≤n then s[n.toNat]? else none
theorem Xs{s:ByteArray}{n:Int}{b:UInt8}(h:Kr s n=some b):0≤n∧s[n.toNat]?=some b:=by
 unfold Kr at h;split at h
 ·exact⟨‹_›,h⟩
 ·cases h
variable {α β:Type}{r:β}
theorem bI{o:Option α}{k:α→Option β}(h:bf o k=some r):∃a,o=some a∧k a=some r:=by
 cases o with
 |none=>cases h
 |some a=>exact⟨a,rfl,h⟩
variable {c:Bool}
theorem pT{k:Option β}(h:ij c k=some r):c=true∧k=some r:=by
 cases c with
 |false=>cases h
 |true=>exact⟨rfl,h⟩
theorem cZ{x y:Option β}(h:(bif c then x else y)=some r):(c=true∧x=some r)∨(c=false∧y=some r):=by
 cases c with
 |false=>exact .inr ⟨rfl,h⟩
 |true=>exact .inl ⟨rfl,h⟩
variable {σ:Type}
theorem lu{k:σ→Option β}{t:(σ→Option β)→Option β}(h:jn k t=some r):∃J,J=k∧t J=some r:=⟨k,rfl,h⟩
theorem nP{a b:α}(h:some a=some b):a=b:=by injection h
variable {j:Nat}{l:List α}
theorem iF{b:Int→α→(σ→Option β)→σ→Option β}{k:σ→Option β}{s:σ}(h:ez l j b k s=some r):
  ∃B K,B=b∧K=k∧ez l j B K s=some r:=⟨b,k,rfl,rfl,h⟩
variable {i:Int}
theorem CZ{n:Nat}{b:Int→(σ→Option β)→σ→Option β}{k:Int→σ→Option β}{s:σ}(h:mK n i b k s=some r):
  ∃B K,B=b∧K=k∧mK n i B K s=some r:=⟨b,k,rfl,rfl,h⟩
theorem qY{f:(σ→Option β)→σ→Option β}{s:σ}(h:kW f s=some r):∃F n,F=f∧iter F n s=some r:=⟨f,_,rfl,h⟩
variable {x:α}
theorem Gs[Inhabited α](h:dj l i=some x):(0≤i∧i<l.length)∧el l i=x:=by
 unfold dj at h;split at h
 ·rename_i bJ;obtain⟨h1,D⟩:=List.getElem?_eq_some_iff.1 h;refine⟨⟨bJ,by omega⟩,?_⟩;simp[el,List.getD_eq_getElem?_getD,h]
 ·cases h
theorem hN(h:l[j]?=some x):dj l (j:Int)=some x:=by
 unfold dj;rw[if_pos (by omega)];simpa using h
variable {m:List α}
theorem V2(h:rB l i x=some m):(0≤i∧i<l.length)∧l.set i.toNat x=m:=by
 unfold rB at h;split at h
 ·exact⟨‹_›,nP h⟩
 ·cases h
theorem Ul{r:List α}(h:j7 l r=some m):l.length+r.length≤aF∧l++r=m:=by
 unfold j7 at h;split at h
 ·exact⟨‹_›,nP h⟩
 ·cases h
variable {a:Int}
theorem V3{b:Int}(h:qo l a b=some m):(0≤a∧a≤b∧b≤l.length)∧(l.take b.toNat).drop a.toNat=m:=by
 unfold qo at h;split at h
 ·exact⟨‹_›,nP h⟩
 ·cases h
structure iU(α:Type) where
 enc:α→List U
 sz:Nat
 hz:∀r,(enc r).length=sz
 one:∀r,(enc r).all U.one=true
 cl:∀r,kL (enc r)=true
def aD{α:Type}(e:iU α)(l:List α):List (List U):=l.map e.enc
theorem mD(e:iU α)(l:List α):(aD e l).length=l.length:=by simp[aD]
theorem Hk(e:iU α)(l:List α):∀x∈aD e l,x.length=e.sz:=λx u=>by
 obtain⟨r,_,rfl⟩:=List.mem_map.1 u;exact e.hz r
theorem aa2(e:iU α)(l:List α):(aD e l).flatten.all U.one=true:=Yj e.enc e.one l
def bq:iU Int:=⟨encI,1,λ_=>rfl,λ_=>rfl,λ_=>rfl⟩
def hO:iU Bool:=⟨λb=>[.bool b],1,λ_=>rfl,λ_=>rfl,λ_=>rfl⟩
def RE{α:Type}(e:iU α):iU (List α):=⟨λl=>[.aX false (aD e l)],1,λ_=>rfl,λ_=>rfl,λ_=>rfl⟩
def u9(sz:Nat)(xs:List (List U))(i:Int)(row:List U):Prop:=(∀e∈xs,e.length=sz)∧0≤i∧i<xs.length∧el xs i=row
theorem ix(e:iU α)(h:dj l i=some x):u9 e.sz (aD e l) i (e.enc x):=by
 refine⟨Hk e l,?_⟩;unfold dj at h;split at h
 ·rename_i bJ;obtain⟨h1,D⟩:=List.getElem?_eq_some_iff.1 h;exact⟨bJ,by rw[mD];omega,by simp[aD,el,List.getD_eq_getElem?_getD,h]⟩
 ·cases h
def yP(sz bytes:Nat)(xs bu zs:List (List U)):Prop:=
 xs++bu=zs∧(∀e∈xs,e.length=sz)∧(∀e∈bu,e.length=sz)∧bu.flatten.all U.one=true∧(xs.length+bu.length)*bytes≤140737488355328∧xs.length+bu.length≤maxLen
theorem ap(e:iU α){bytes:Nat}(V:bytes≤256){r:List α}(h:j7 l r=some m):yP e.sz bytes (aD e l) (aD e r) (aD e m):=by
 obtain⟨h1,D⟩:=Ul h;unfold aF at h1;refine⟨by rw[←D];simp[aD],Hk e l,Hk e r,aa2 e r,?_,?_⟩
 ·rw[mD,mD];exact Nat.le_trans (Nat.mul_le_mul_left _ V) (by omega)
 ·rw[mD,mD];unfold maxLen;omega
def DS(sz:Nat)(xs:List (List U))(i:Int)(off:Nat)(ca:List U)(zs:List (List U)):Prop:=
 u9 sz xs i (el xs i)∧zs=xs.set i.toNat (iw (el xs i) off ca)
theorem eY[Inhabited α](e:iU α){y:α}{off:Nat}{ca:List U}(u:dj l i=some x)(h:rB l i y=some m)(aa:iw (e.enc x) off ca=e.enc y):DS e.sz (aD e l) i off ca (aD e m):=by
 have h1:=ix e u;obtain⟨D,ak,bc,bX⟩:=h1;refine⟨⟨D,ak,bc,rfl⟩,?_⟩;rw[bX,aa,←(V2 h).2];simp[aD,List.map_set]
def pO(sz:Nat)(xs:List (List U))(a b:Int)(zs:List (List U)):Prop:=(∀e∈xs,e.length=sz)∧(0≤a∧a≤b∧b≤xs.length)∧(xs.take b.toNat).drop a.toNat=zs
theorem sl(e:iU α){b:Int}(h:qo l a b=some m):pO e.sz (aD e l) a b (aD e m):=by
 obtain⟨h1,D⟩:=V3 h;exact⟨Hk e l,by rw[mD];exact h1,by rw[←D];simp[aD,List.map_drop,List.map_take]⟩
def c5(k:IntKind)(n:Int):U:=.int k n
def ir(b:Bool):U:=.bool b
def DP(P:Program)(E:Nat)(k:IntKind)(bx:List (U×U))(n:Int)(a:U)(b:Bool):Prop:=∃(α:Type) (l:List (Int×α)) (enc:α→U) (z:α),
 bx=dy k enc l∧a=enc ((bT l n).getD z)∧b=(bT l n).isSome∧(∀w,∃v,(zeroValue E).run P w=.ok v w∧∀I,aO I (enc z) v)
def A7(k:IntKind)(bx:List (U×U))(n:Int)(v:U)(k0:List (U×U)):Prop:=∃(α:Type) (l:List (Int×α)) (enc:α→U) (x:α),bx=dy k enc l∧v=enc x∧(enc x).closed=true∧k0=dy k enc (c6 l n x)
def DQ(k:IntKind)(bx:List (U×U))(n:Int):Prop:=∃(α:Type) (l:List (Int×α)) (enc:α→U),bx=dy k enc l∧n=l.length
variable {enc:α→U}{k:IntKind}
theorem lk{P:Program}{E:Nat}(l:List (Int×α))(n:Int)(z:α)(hz:∀w,∃v,(zeroValue E).run P w=.ok v w∧∀I,aO I (enc z) v):DP P E k (dy k enc l) n (enc ((bT l n).getD z)) (bT l n).isSome:=⟨α,l,enc,z,rfl,rfl,rfl,hz⟩
theorem sr(l:List (Int×α))(n:Int)(x:α)(aa:(enc x).closed=true):A7 k (dy k enc l) n (enc x) (dy k enc (c6 l n x)):=⟨α,l,enc,x,rfl,rfl,aa,rfl⟩
theorem lm(l:List (Int×α)):DQ k (dy k enc l) (l.length:Int):=⟨α,l,enc,rfl,rfl⟩
def Hw:Nat→List (List U)→Prop
 |0,xs=>xs.length≤maxLen
 |n+1,xs=>xs.length≤maxLen∧∀e∈xs,∀f bu,U.aX f bu∈e→Hw n bu
def lK(xs:List (List U)):Prop:=∀n,Hw n xs
theorem lK.len{xs:List (List U)}(h:lK xs):xs.length≤maxLen:=h 0
theorem lK.el{e:iU α}(h:lK (aD e l))(u:dj l i=some x){k:Nat}{f:Bool}{bu:List (List U)}(ah:(e.enc x)[k]?=some (.aX f bu)):lK bu:=λn=>by
 refine(h (n+1)).2 (e.enc x) ?_ f bu (List.mem_of_getElem? ah);unfold dj at u;split at u
 ·exact List.mem_map.2 ⟨x,List.mem_of_getElem? u,rfl⟩
 ·cases u
theorem hW{n:Int}(h1 : -9223372036854775808≤n)(D:n≤9223372036854775807):bK n=n:=Mo h1 D
theorem hV{e:iU α}(h:l[j]?=some x)(V:lK (aD e l)):U.int .i64 (IntKind.wrap .i64 ((j:Int)+1))=.int .i64 ((j+1:Nat):Int):=by
 obtain⟨h1,_⟩:=List.getElem?_eq_some_iff.1 h;have V:=V.len;rw[mD]at V;unfold maxLen at V;rw[show IntKind.wrap .i64 ((j:Int)+1)=(j:Int)+1 from Mo (by omega) (by omega)];rfl
theorem Bk{hi:Int}(bJ : -9223372036854775808≤i)(h:i<hi)(V:hi≤9223372036854775807):U.int .i64 (IntKind.wrap .i64 (i+1))=.int .i64 (i+1):=by
 rw[show IntKind.wrap .i64 (i+1)=i+1 from Mo (by omega) (by omega)]
theorem ew(e:iU α)(l:List α):U.int .i64 ((aD e l).length:Int)=.int .i64 (l.length:Int):=by rw[mD]
def yL{α:Type}(eE:α→α→Int)(x:α):List α→List α
 |[]=>[x]
 |y::r=>if eE y x<0 then y::yL eE x r else x::y::r
def qb{α:Type}(eE:α→α→Int):List α→List α
 |[]=>[]
 |x::r=>yL eE x (qb eE r)
def w9{α:Type}(eE:α→α→Int):List α→Bool
 |a::b::r=>decide (eE a b<0)&&w9 eE (b::r)
 |_=>true
def m0{α:Type}(eE:α→α→Int)(l:List α):Option (List α):=bif w9 eE (qb eE l)&&decide (l.length<4611686018427387904)then some (qb eE l)else none
theorem LP{α:Type}(eE:α→α→Int)(x:α):∀l:List α,(yL eE x l).Perm (x::l)
 |[]=>.refl _
 |y::r=>by
  simp only[yL];split
  ·exact((LP eE x r).cons y).trans (.swap x y r)
  ·exact .refl _
theorem xZ{α:Type}(eE:α→α→Int):∀l:List α,(qb eE l).Perm l
 |[]=>.refl _
 |x::r=>(LP eE x _).trans ((xZ eE r).cons x)
theorem KO{α:Type}{eE:α→α→Int}(bB:∀a b c,eE a b<0→eE b c<0→eE a c<0):∀{l:List α},w9 eE l=true→l.Pairwise λa b=>eE a b<0
 |[],_=>.nil
 |[x],_=>by simp
 |a::b::r,h=>by
  simp only[w9,Bool.and_eq_true,decide_eq_true_eq]at h;have bD:=KO bB h.2;rw[List.pairwise_cons];refine⟨λz hz=>?_,bD⟩;rcases List.mem_cons.1 hz with rfl|hz
  ·exact h.1
  ·exact bB _ _ _ h.1 ((List.pairwise_cons.1 bD).1 z hz)
theorem VU{eE:α→α→Int}(bB:∀a b c,eE a b<0→eE b c<0→eE a c<0)(h:m0 eE l=some m):m.Perm l∧(m.Pairwise λa b=>eE a b<0)∧l.length<4611686018427387904:=by
 unfold m0 at h;cases V:(w9 eE (qb eE l)&&decide (l.length<4611686018427387904))with
 |false=>rw[V]at h;cases h
 |true=>
  rw[V]at h;cases h
  simp only[Bool.and_eq_true,decide_eq_true_eq]at V;exact⟨xZ eE l,KO bB V.1,V.2⟩
theorem TK{α:Type}{eE:α→α→Int}:∀{d m:List α},d.Perm m→(m.Pairwise λa b=>eE a b<0)→(d.Pairwise λa b=>¬eE b a<0)→d=m
 |[],m,aB,_,_=>aB.symm.eq_nil.symm
 |x::d,[],aB,_,_=>by have:=aB.eq_nil;cases this
 |x::d,y::m,aB,h1,D=>by
  rw[List.pairwise_cons]at h1 D;have u:x=y:=by
   refine Classical.byContradiction λct=>?_;have jj:x∈m:=by
    have:=aB.mem_iff.1 (List.mem_cons_self (a:=x) (l:=d));rcases List.mem_cons.1 this with e|e
    ·exact absurd e ct
    ·exact e
   have a2:y∈d:=by
    have:=aB.mem_iff.2 (List.mem_cons_self (a:=y) (l:=m));rcases List.mem_cons.1 this with e|e
    ·exact absurd e.symm ct
    ·exact e
   exact D.1 y a2 (h1.1 x jj)
  subst u;rw[TK (List.Perm.cons_inv aB) h1.2 D.2]
def fL{α:Type}:List (α→Int)→α→α→Int
 |[],_,_=>0
 |k::r,a,b=>if k a<k b then -1 else if k b<k a then 1 else fL r a b
theorem o5(k:α→Int)(r:List (α→Int))(a b:α):fL (k::r) a b<0↔k a<k b∨k a=k b∧fL r a b<0:=by
 simp only[fL];split
 ·rename_i h;exact⟨λ_=>.inl h,λ_=>by omega⟩
 ·split
  ·rename_i h1 D;exact⟨λh=>by omega,λh=>by omega⟩
  ·rename_i h1 D;have:k a=k b:=by omega
   exact⟨λh=>.inr ⟨this,h⟩,λh=>by rcases h with h|h;exact absurd h h1;exact h.2⟩
theorem TL{α:Type}:∀(l:List (α→Int)) (a:α),¬fL l a a<0
 |[],_=>by simp[fL]
 |k::r,a=>by rw[o5];intro h;rcases h with h|h;omega;exact TL r a h.2
theorem x3{α:Type}:∀(l:List (α→Int)) (a b c:α),fL l a b<0→fL l b c<0→fL l a c<0
 |[],_,_,_=>by simp[fL]
 |k::r,a,b,c=>by
  simp only[o5];intro h1 D;rcases h1 with h1|h1<;>rcases D with D|D
  ·exact .inl (by omega)
  ·exact .inl (by omega)
  ·exact .inl (by omega)
  ·exact .inr ⟨by omega,x3 r a b c h1.2 D.2⟩
theorem TM{α:Type}:∀(l:List (α→Int)) (a b c:α),¬fL l a b<0→¬fL l b c<0→¬fL l a c<0
 |[],_,_,_=>by simp[fL]
 |k::r,a,b,c=>by
  simp only[o5];intro h1 D h;rcases h with h|⟨h,ak⟩
  ·by_cases e:k a<k b
   ·exact h1 (.inl e)
   ·exact D (.inl (by omega))
  ·by_cases aA:k a<k b
   ·exact h1 (.inl aA)
   by_cases e2:k b<k c
   ·exact D (.inl e2)
   have b6:k a=k b:=by omega
   have cQ:k b=k c:=by omega
   exact TM r a b c (λq=>h1 (.inr ⟨b6,q⟩)) (λq=>D (.inr ⟨cQ,q⟩)) ak
end
section
inductive M2 where
 |int (k:IntKind)
 |bool
 |str
 |slice (E sz bytes:Nat) (zs:List Value)
 |map (K E:Nat) (k:IntKind)
 |struct (zs:List Value) (fe:List (Nat×Nat)) (o1:List Bool)
 |nN
structure e5 where
 sz:Nat
 dr:Bool
 zs:Option (List Value)
 kd:M2
def l0(P:Program)(T:Nat):M2→Prop
 |.int k=>P.underlying T=some (.int k)
 |.bool=>P.underlying T=some .bool
 |.str=>P.underlying T=some .string
 |.slice E sz bytes zs=>jh P T E sz∧jE P T E sz bytes∧ku P T E sz zs
 |.map K E k=>k7 P T K E k
 |.struct zs fe o1=>j0 P T zs fe∧(∀f off sz,fe[f]?=some (off,sz)→gM P T f off)∧∀f off sz dr,fe[f]?=some (off,sz)→o1[f]?=some dr→gE P T f off sz dr
 |.nN=>True
structure fk(P:Program)(T:Nat)(i:e5):Prop where
 ty:dM P T i.sz i.dr
 alx:∀zs,i.zs=some zs→∀w,∃z,(zeroValue T).run P w=.ok z w∧z.cells=zs.toArray
 kd:l0 P T i.kd
abbrev gC:=List (Nat×e5)
def gC.get:gC→Nat→Option e5
 |[],_=>none
 |(k,v)::r,n=>bif Nat.beq k n then some v else gC.get r n
def jf(P:Program):gC→Prop
 |[]=>True
 |(k,v)::r=>fk P k v∧jf P r
theorem jf.get{P:Program}:∀{bH:gC} {T:Nat} {i:e5},jf P bH→bH.get T=some i→fk P T i
 |[],_,_,_,h=>by simp[gC.get]at h
 |(k,v)::r,T,i,cb,h=>by
  simp only[gC.get]at h;cases hk:Nat.beq k T<;>rw[hk]at h
  ·exact jf.get cb.2 h
  ·simp only[cond_true,Option.some.injEq]at h;have:k=T:=by simpa using hk
   subst this h;exact cb.1
structure ji(P:Program)(bH:gC):Prop where
 mix:P.follows .mixedOrders=true
 tys:jf P bH
structure dk(P:Program)(f:FuncId):Prop where
 h:∀(args:Array Value) (w:World),(callFunc f args).run P w=.ok (.enter f args) w
def Im:cn→Prop
 |.slice _ _ xs _ _=>∀e∈xs,oe e=true
 |_=>False
def uI:Y→Prop
 |[]=>True
 |p::r=>Im p.2∧uI r
def Qu(a:U):Prop:=∀(I:bw) (β:Nat→Value) v,ar I β a v→∃p n c,v=.slice (some p) n c
abbrev cf:=List U×Y
inductive cA where
 |y (R:List Nat) (bE:U)
 |v (d:Nat) (aI:cn) (bE:U)
 |e (M news:List Nat) (bE:U) (az:Y)
def e1(G:cq)(o:Oper)(env:ai)(σ:Y):cA→Prop
 |.y R bE=>Yields G o env.ev σ [] R bE
 |.v d aI bE=>G.ids.contains d=false∧Yields G o env.ev ((d,aI)::σ) [d] [d] bE
 |.e M news bE az=>g8 G o env.ev σ M news (λa s=>a=bE∧s=az)∧news.all (λd=>!G.ids.contains d)=true
inductive Hint(P:Program):Type where
 |Bv
 |al (d:Nat)
 |to (h:Hint P) (a b:U) (e:a=b)
 |ix (sz:Nat) (xs:List (List U)) (i:Int) (row:List U) (bP:u9 sz xs i row)
 |lo (d sz:Nat) (xs:List (List U)) (i:Int) (off:Nat) (row:List U) (bP:u9 sz xs i row)
 |so (d sz:Nat) (xs:List (List U)) (i:Int) (off:Nat) (ca:List U) (zs:List (List U)) (bP:DS sz xs i off ca zs) (k:Nat) (hk:(k:Int)≤i)
 |rf (f:FuncId) (sU cO:List U) (r:U) (bP:ef P f [] (cO++sU) r) (aa:dk P f)
 |ro (uT:Nat) (f:FuncId) (σs:Y) (cO:List U) (r:U) (bP:ef P f σs cO r) (aa:dk P f)
 |le (ds:List Nat) (f:FuncId) (cO:List U) (r:U) (bP:ef P f [] cO r) (aa:dk P f)
 |lq (news:List Nat) (f:FuncId) (dB:Y) (cO:List U) (r:U) (σ2:Y) (bP:gi P f dB cO (λa az=>a=r∧az=σ2)) (aa:dk P f)
 |dl (ds news:List Nat) (f:FuncId) (cO:List U) (r:U) (σ2:Y) (bP:gi P f [] cO (λa az=>a=r∧az=σ2)) (aa:dk P f) (vr:uI σ2)
 |gs (y3:Bool) (ex:cf) (f:List Nat→Op→ai→Y→Option (cA×cf)) (bP:∀(o:Oper) (N:Nat) (ids:List Nat) (env:ai) (σ:Y) (s:cA) (aI:cf),f ids o.op env σ=some (s,aI)→aI=ex→e1 ⟨P,N,ids⟩ o env σ s)
 |ap (d2 sz bytes:Nat) (xs bu zs:List (List U)) (bP:yP sz bytes xs bu zs)
 |ws (d2 sz:Nat) (xs:List (List U)) (a:Int) (zs:List (List U)) (bP:pO sz xs a xs.length zs)
 |sl (sz:Nat) (xs:List (List U)) (a b:Int) (zs:List (List U)) (bP:pO sz xs a b zs)
 |qr (n:Int) (bP:n≠0)
 |sh (n:Int) (bP:0≤n)
 |is (s:ByteArray) (n:Int) (b:UInt8) (bP:0≤n∧s[n.toNat]?=some b)
 |lk (E:Nat) (k:IntKind) (bx:List (U×U)) (n:Int) (a:U) (b:Bool) (bP:DP P E k bx n a b)
 |sr (k:IntKind) (bx:List (U×U)) (n:Int) (v:U) (k0:List (U×U)) (bP:A7 k bx n v k0)
 |lm (k:IntKind) (bx:List (U×U)) (n:Int) (bP:DQ k bx n)
 |Ln (neg:Bool) (T:Nat) (a b:U) (r:Bool) (bP:∀(x y:Operand) w,(do eqGuard (bif neg then .neq else .eql) T x y (valOf a) (valOf b);binOp (bif neg then .neq else .eql) T (valOf a) (valOf b):Sem Value).run P w=.ok (.bool r) w)
 |Lm (neg:Bool) (a:U) (bP:Qu a)
 |s3 (sz:Nat) (xs:List (List U)) (a b:Int) (zs:List (List U)) (bP:pO sz xs a b zs)
 |pu (T aW:Nat) (a r:U) (bP:∀(o:Oper) (N:Nat) (ids:List Nat) (ev:Operand→U) (σ:Y) (x:Operand),o.op=.convert T aW x→ev x=a→Yields ⟨P,N,ids⟩ o ev σ [] [] r)
 |pb (op:BinOp) (T:Nat) (a b r:U) (bP:∀(o:Oper) (N:Nat) (ids:List Nat) (ev:Operand→U) (σ:Y) (x y:Operand) (aW:Nat),o.op=.binOp op T x y aW→ev x=a→ev y=b→Yields ⟨P,N,ids⟩ o ev σ [] [] r)
def Hint.exp{P:Program}:Hint P→cf
 |.Bv|.al _=>([],[])
 |.to h a _ _=>(a::h.exp.1,h.exp.2)
 |.ix _ xs i _ _=>([.aX false xs,.int .i64 i],[])
 |.lo d sz xs i off _ _=>([.aX false xs,.ptr d (i.toNat*sz+off)],[])
 |.so d sz xs i off ca _ _ _ _=>([.aX false xs,.ptr d (i.toNat*sz+off),.agg ca],[])
 |.rf f sU cO _ _ _=>(.fn f sU::cO,[])
 |.ro _ f σs cO _ _ _=>(.fn f []::cO,σs)
 |.le _ f cO _ _ _=>(.fn f []::cO,[])
 |.lq _ f dB cO _ _ _ _=>(.fn f []::cO,dB)
 |.dl _ _ f cO _ _ _ _ _=>(.fn f []::cO,[])
 |.gs _ ex _ _=>ex
 |.ap _ _ _ xs bu _ _=>([.aX false xs,.aX false bu],[])
 |.ws _ _ xs a _ _=>([.aX false xs,.int .i64 a],[])
 |.sl _ xs a b _ _=>([.aX false xs,.int .i64 a,.int .i64 b],[])
 |.qr n _|.sh n _=>([.int .i64 n],[])
 |.is s n _ _=>([.str s,.int .i64 n],[])
 |.lk _ _ bx n _ _ _=>([.int .i64 n],[(0,.map 0 0 bx)])
 |.sr _ bx n v _ _=>([.int .i64 n,v],[(0,.map 0 0 bx)])
 |.lm _ bx _ _=>([],[(0,.map 0 0 bx)])
 |.Ln _ _ a b _ _=>([a,b],[])
 |.Lm _ a _=>([a],[])
 |.s3 _ xs a b _ _=>([.aX false xs,.int .i64 a,.int .i64 b,.int .i64 b],[])
 |.pu _ _ a _ _=>([a],[])
 |.pb _ _ a b _ _=>([a,b],[])
mutual
def si:U→U
 |.aX true xs=>.aX false xs
 |.cV=>.aX false []
 |.agg cs=>.agg (L7 cs)
 |a=>a
def L7:List U→List U
 |[]=>[]
 |x::r=>si x::L7 r
end
mutual
theorem K2{σ:Y}:∀a:U,hP σ a (si a)
 |.aX true xs=>.full xs
 |.cV=>.nil false
 |.agg cs=>.agg (Tn cs)
 |.aX false _|.gq|.undef|.int _ _|.bool _|.str _|.fP _|.mm|.kD|.own _|.ptr _ _|.dm _|.gp _ _|.cD _|.fn _ _|.fm _ _|.de _|.arr _=>.refl _
theorem Tn{σ:Y}:∀l:List U,jD σ l (L7 l)
 |[]=>.nil
 |x::r=>.cons (K2 x) (Tn r)
end
variable {G:cq}{o:Oper}{σ:Y}
theorem Yields.off{ev:Operand→U}{dD R:List Nat}{bE:U}(h:Yields G o (λx=>si (ev x)) σ dD R bE):Yields G o ev σ dD R bE:=
 λaz cx I β w aP b2 aq hm hop=>h az cx I β w aP b2 aq hm λx u=>(K2 (ev x)).rep aq _ (hop x u)
theorem g8.off{ev:Operand→U}{M news:List Nat}{Φ:U→Y→Prop}(h:g8 G o (λx=>si (ev x)) σ M news Φ):g8 G o ev σ M news Φ:=
 λcx I β w aP aq hop=>h cx I β w aP aq λx u=>(K2 (ev x)).rep aq _ (hop x u)
def Bl:List (Nat×U)→List (Nat×U)
 |[]=>[]
 |p::r=>(p.1,si p.2)::Bl r
theorem L8{ev:Operand→U}:∀l:List (Nat×Operand),Bl (l.map λp=>(p.1,ev p.2))=l.map λp=>(p.1,si (ev p.2))
 |[]=>rfl
 |p::r=>by simp only[List.map_cons,Bl,L8 r]
mutual
def iJ(k9:List Nat)(σ:Y):U→Option U
 |.own d=>bif k9.contains d then some (.own d)else match σ.get d with
  |some (.slice _ _ xs _ true)=>some (.aX false xs)
  |some (.win _ _ xs)=>some (.aX false xs)
  |_=>none
 |.dm d=>bif k9.contains d then some (.dm d)else match σ.get d with
  |some (.k4 _ _ bx)=>some (.de bx)
  |_=>some (.dm d)
 |.cV=>some (.aX false [])
 |.kD=>some (.aX false [])
 |.aX true xs=>some (.aX false xs)
 |.agg cs=>match q3 k9 σ cs with|none=>none|some l=>some (.agg l)
 |.cD cs=>match q3 k9 σ cs with|none=>none|some l=>some (.cD l)
 |.fn f cs=>match q3 k9 σ cs with|none=>none|some l=>some (.fn f l)
 |a=>some a
def q3(k9:List Nat)(σ:Y):List U→Option (List U)
 |[]=>some []
 |x::r=>match iJ k9 σ x with
  |none=>none
  |some a=>match q3 k9 σ r with
   |none=>none
   |some l=>some (a::l)
end
mutual
theorem qZ{k9:List Nat}{σ:Y}:∀{a b:U},iJ k9 σ a=some b→hP σ a b
 |.own d,b,h=>by
  simp only[iJ]at h;cases hk:k9.contains d with
  |true=>rw[hk]at h;simp only[cond_true,Option.some.injEq]at h;subst h;exact .refl _
  |false=>
   rw[hk]at h;simp only[cond_false]at h;split at h
   ·rename_i Z;simp only[Option.some.injEq]at h;subst h;exact .own Z
   ·rename_i Z;simp only[Option.some.injEq]at h;subst h;exact .win Z
   ·cases h
 |.dm d,b,h=>by
  simp only[iJ]at h;cases hk:k9.contains d with
  |true=>rw[hk]at h;simp only[cond_true,Option.some.injEq]at h;subst h;exact .refl _
  |false=>
   rw[hk]at h;simp only[cond_false]at h;split at h
   ·rename_i Z;simp only[Option.some.injEq]at h;subst h;exact .k4 Z
   ·cases h;exact .refl _
 |.de _,b,h=>by simp only[iJ,Option.some.injEq]at h;subst h;exact .refl _
 |.arr _,b,h=>by simp only[iJ,Option.some.injEq]at h;subst h;exact .refl _
 |.cV,b,h=>by simp only[iJ,Option.some.injEq]at h;subst h;exact .nil false
 |.kD,b,h=>by simp only[iJ,Option.some.injEq]at h;subst h;exact .kD
 |.aX true xs,b,h=>by simp only[iJ,Option.some.injEq]at h;subst h;exact .full xs
 |.agg cs,b,h=>by
  simp only[iJ]at h;split at h
  ·cases h
  ·rename_i l aJ;simp only[Option.some.injEq]at h;subst h;exact .agg (x4 aJ)
 |.cD cs,b,h=>by
  simp only[iJ]at h;split at h
  ·cases h
  ·rename_i l aJ;simp only[Option.some.injEq]at h;subst h;exact .cD (x4 aJ)
 |.fn f cs,b,h=>by
  simp only[iJ]at h;split at h
  ·cases h
  ·rename_i l aJ;simp only[Option.some.injEq]at h;subst h;exact .fn (x4 aJ)
 |.aX false _,b,h|.gq,b,h|.undef,b,h|.int _ _,b,h|.bool _,b,h|.str _,b,h|.fP _,b,h|.mm,b,h|.ptr _ _,b,h|.gp _ _,b,h|.fm _ _,b,h=>by
  simp only[iJ,Option.some.injEq]at h;subst h;exact .refl _
theorem x4{k9:List Nat}{σ:Y}:∀{a b:List U},q3 k9 σ a=some b→jD σ a b
 |[],b,h=>by simp only[q3,Option.some.injEq]at h;subst h;exact .nil
 |x::r,b,h=>by
  simp only[q3]at h;split at h
  ·cases h
  ·rename_i a aC;split at h
   ·cases h
   ·rename_i l aJ;simp only[Option.some.injEq]at h;subst h
    exact .cons (qZ aC) (x4 aJ)
end
def Y.at(σ:Y):List Nat→Option Y
 |[]=>some []
 |d::r=>match σ.get d with
  |none=>none
  |some o=>match Y.at σ r with
   |none=>none
   |some l=>some ((d,o)::l)
theorem Y.oa{σ:Y}:∀{ds:List Nat} {l:Y},σ.at ds=some l→qn σ l∧l.ids=ds
 |[],l,h=>by simp only[Y.at,Option.some.injEq]at h;subst h;exact⟨trivial,rfl⟩
 |d::r,l,h=>by
  simp only[Y.at]at h;split at h
  ·cases h
  ·rename_i o aj;split at h
   ·cases h
   ·rename_i m hm;simp only[Option.some.injEq]at h;subst h
    obtain⟨h1,D⟩:=Y.oa hm;exact⟨⟨aj,h1⟩,by simp only[Y.ids,List.map_cons]at D ⊢;rw[D]⟩
def qg(f:U→Option U):List U→Option (List U)
 |[]=>some []
 |x::r=>match f x with
  |none=>none
  |some a=>match qg f r with
   |none=>none
   |some l=>some (a::l)
def q9:Nat→Y→U→Option U
 |0,_,_=>none
 |n+1,σ,a=>match a with
  |.own d=>(match σ.get d with|some (.slice _ _ xs _ _)=>some (.aX false xs)|some (.win _ _ xs)=>some (.aX false xs)|_=>none)
  |.ptr d p=>(match σ.get d with
   |some (.cells _ cs)=>(match qg (q9 n σ) (cs.drop p)with|none=>none|some l=>some (.fP l))
   |_=>none)
  |.cV=>some (.aX false [])
  |.aX true xs=>some (.aX false xs)
  |.agg cs=>(match qg (q9 n σ) cs with|none=>none|some l=>some (.agg l))
  |.cD cs=>(match qg (q9 n σ) cs with|none=>none|some l=>some (.cD l))
  |.fn f cs=>(match qg (q9 n σ) cs with|none=>none|some l=>some (.fn f l))
  |.dm d=>(match σ.get d with|some (.map _ _ bx)=>some (.de bx)|some (.k4 _ _ bx)=>some (.de bx)|some (.gj _ _ _ _ bx)=>some (.de bx)|_=>none)
  |.fm _ _=>none
  |.kD=>some (.aX false [])
  |a=>some a
theorem x6{f:U→Option U}{I J:bw}{β:Nat→Value}(be:∀a b,f a=some b→∀v,ar I β a v→aO J b v):∀{l m:List U},qg f l=some m→∀vs,bO I β l vs→b9 J m vs
 |[],m,h,vs,ax=>by simp only[qg,Option.some.injEq]at h;subst h;exact ax
 |x::r,m,h,vs,ax=>by
  simp only[qg]at h;split at h
  ·cases h
  ·rename_i a aC;split at h
   ·cases h
   ·rename_i l aJ;simp only[Option.some.injEq]at h;subst h
    simp only[bO]at ax;obtain⟨ay,bF,rfl,h1,D⟩:=ax;exact⟨ay,bF,rfl,be x a aC ay h1,x6 be aJ bF D⟩
theorem L9{G:cq}{cx:eO}{I:bw}{β:Nat→Value}{σ:Y}{w:World}(aq:bS G cx I β σ w):∀(n:Nat) (a b:U),q9 n σ a=some b→∀v,ar I β a v→aO (iq w) b v
 |0,a,b,h,_,_=>by cases h
 |n+1,a,b,h,v,ax=>by
  have hle:b7 I (iq w):=aq.OI;have bD:=L9 aq n;cases a with
  |own d=>
   simp only[q9]at h;split at h
   ·rename_i T sz xs k cU Z;cases h;simp only[ar]at ax;obtain⟨rfl,W⟩:=ax;have b3:=aq.cB d _ Z;simp only[aU]at b3;simp only[aO];rcases b3 with q|⟨q,rfl,_⟩|⟨b,aF,arr,an,au,aK,aG,bb,bC,bY,_⟩
    ·rw[q]at W;simp[iy]at W
    ·exact⟨none,0,q,by simp,by simp[maxLen],by simp,.inl rfl⟩
    ·refine⟨_,aF,an,au,aK,by simp,.inr ⟨b,0,rfl,?_⟩⟩;refine x2 xs 0 _ (mC hle _ _ bC) λj v af=>?_;rw[Nat.zero_add];rw[List.getElem?_take]at af;split at af
     ·simp only[iq,World.cell?,aG];simpa using af
     ·cases af
   ·rename_i T sz xs Z;cases h;exact jy hle _ _ (by simpa only[ar]using aq.win Z ax)
   ·cases h
  |ptr d p=>
   simp only[q9]at h;split at h
   ·rename_i T cs Z;split at h
    ·cases h
    ·rename_i l aJ;cases h;simp only[ar]at ax;obtain⟨dY,V,rfl⟩:=ax;obtain⟨arr,an,au,aK,_⟩:=bS.box aq Z V;simp only[aO];refine⟨dY,p,rfl,?_⟩;have:=x6 (J:=iq w) bD aJ _ (zL p _ _ aK);refine F8 l p _ this λj v af=>?_;simp only[iq,World.cell?,au];simpa using af
   ·cases h
  |cV=>cases h;simp only[ar,aO]at ax ⊢;exact⟨none,0,ax,by simp,by simp[maxLen],by simp,by simp⟩
  |aX f xs=>
   have h1:aO (iq w) (.aX f xs) v:=jy hle _ _ (by simpa only[ar]using ax);cases f with
   |false=>cases h;exact h1
   |true=>
    cases h;simp only[aO]at h1 ⊢;obtain⟨a,c,D,ak,bc,_,bX⟩:=h1;exact⟨a,c,D,ak,bc,by simp,bX⟩
  |agg cs=>
   simp only[q9]at h;split at h
   ·cases h
   ·rename_i l aJ;cases h
    simp only[ar]at ax;obtain⟨vs,rfl,ax⟩:=ax;simp only[aO];exact⟨vs,rfl,x6 bD aJ _ ax⟩
  |cD cs=>
   simp only[q9]at h;split at h
   ·cases h
   ·rename_i l aJ;cases h
    simp only[ar]at ax;obtain⟨vs,rfl,ax⟩:=ax;simp only[aO];exact⟨vs,rfl,x6 bD aJ _ ax⟩
  |fn f cs=>
   simp only[q9]at h;split at h
   ·cases h
   ·rename_i l aJ;cases h
    simp only[ar]at ax;obtain⟨vs,rfl,ax⟩:=ax;simp only[aO];exact⟨vs,rfl,x6 bD aJ _ ax⟩
  |dm d=>
   have own:∀{r:Nat} {es:Array MapEntry} {clock:Nat} {bx:List (U×U)},β d=.map (some r)→w.heap[r]?=some (.map es clock)→e9 I bx es.toList→iK es clock→ar I β (.dm d) v→aO (iq w) (.de bx) v:=by
    intro r es clock bx h1 D ak bc bX;simp only[ar]at bX;obtain⟨rfl,_⟩:=bX;simp only[aO];exact⟨r,es,clock,h1,by simp only[iq,D],lP hle _ _ ak,bc⟩
   have zG:k3 (β d)=true:=by simp only[ar]at ax;obtain⟨rfl,q⟩:=ax;exact q
   simp only[q9]at h;split at h
   ·rename_i K E bx Z;cases h;have b3:=aq.cB d _ Z;simp only[aU]at b3;rcases b3 with q|⟨r,es,clock,an,au,aK,_,_,bC⟩
    ·rw[q]at zG;simp[k3]at zG
    ·exact own an au aK bC ax
   ·rename_i K E bx Z;cases h;have b3:=aq.cB d _ Z;simp only[aU]at b3;rcases b3 with q|⟨r,es,clock,an,au,aK,_,bC⟩
    ·rw[q]at zG;simp[k3]at zG
    ·obtain⟨gG,jC,bc,bX⟩:=aq.h9 r _ au;obtain⟨rfl,rfl⟩:=F6 bX;exact own an bc aK bC ax
   ·rename_i es clock K E bx Z;cases h;have b3:=aq.cB d _ Z;simp only[aU]at b3;rcases b3 with q|⟨r,an,au,aK,_,_,bC⟩
    ·rw[q]at zG;simp[k3]at zG
    ·exact own an au aK bC ax
   ·cases h
  |de bx=>cases h;exact jy hle _ _ (by simpa only[ar]using ax)
  |arr xs=>cases h;exact jy hle _ _ (by simpa only[ar]using ax)
  |fm k d=>cases h
  |kD=>
   cases h;simp only[ar,aO]at ax ⊢;obtain⟨a,c,ax,aa⟩:=ax;exact⟨some a,c,ax,by simp,aa,by simp,by simp⟩
  |gp f cs=>cases h;exact jy hle _ _ (by simpa only[ar]using ax)
  |gq=>cases h;simp[aO]
  |undef=>cases h;exact jy hle _ _ (by simpa only[ar]using ax)
  |int k n=>cases h;exact jy hle _ _ (by simpa only[ar]using ax)
  |bool b=>cases h;exact jy hle _ _ (by simpa only[ar]using ax)
  |str s=>cases h;exact jy hle _ _ (by simpa only[ar]using ax)
  |fP cs=>cases h;exact jy hle _ _ (by simpa only[ar]using ax)
  |mm=>cases h;exact jy hle _ _ (by simpa only[ar]using ax)
def yy(n:Nat)(σ:Y)(a:U):Option U:=match q9 n σ a with
 |some (.fn f l)=>some (.gp f l)
 |x=>x
variable {I:bw}{β:Nat→Value}
theorem NF{cx:eO}{w:World}(aq:bS G cx I β σ w)(n:Nat)(a b:U)(h:yy n σ a=some b)(v:Value)(ax:ar I β a v):aO (iq w) b v:=by
 unfold yy at h;split at h
 ·rename_i f l he;cases h;have:=L9 aq n a _ he v ax;simpa only[aO]using this
 ·exact L9 aq n a _ h v ax
theorem b9.IX:∀{l:List U} {vs:List Value},b9 I l vs→bO I β l vs:=λh=>b9.rep β _ _ h
variable {args:Array Operand}{cO ps:List U}{env:ai}{f:FuncId}{gH:Operand}{k:Array TypeId}{r:U}{σs:Y}
theorem bG.aji{aF:List U}(n:Nat)(h:o.op=.call ⟨.value gH,args,k⟩)(be:env.ev gH=.fn f aF)
    (nG:∀(args:Array Value) (w:World),(callFunc f args).run G.P w=.ok (.enter f args) w) (cE:ef G.P f [] cO r) (aB:env.nI args.toList=some ps) (aC:qg (yy n σs) (ps++aF)=some cO) (W:qn σ σs)
    (ax:r.jO=true):Yields G o env.ev σ [] σs.ids r:=by
  intro az cx I β w aP b2 aq _ hop;have iO:=hop gH (by simp[h,Op.operands,Call.operands]);rw[be]at iO;simp only[ar]at iO;obtain⟨vs,iO,mF⟩:=iO;rw[zT h iO nG]
  have jq:∀d o,σs.get d=some o→az.get d=some o:=λd o Z=>by
    obtain⟨p,bU,cG,dP⟩:=p8 σs d o Z;rw[b2 d (by rw[←cG];exact List.mem_map.2 ⟨p,bU,rfl⟩),←cG,←dP];exact W.mem p bU
  have vQ:=aq.sub jq;have lB:=pQ _ _ _ _ (v2 env.ev aP args.toList λx u=>hop x (by simp only[h,Op.operands,Call.operands];simp;right;simpa using u)) mF;rw[ai.v7 aB]at lB;have sn:=x6 (J:=iq w) (NF vQ n) aC _ lB
  have fA:bS ⟨G.P,0,[]⟩ (mE (iq w) β [] w) (iq w) β [] w:=
    {good:=CY,h9:=CQ,ja:=b7.refl _,iL:=λ_ _ _ _=>rfl,frame:=λ_ _ _=>rfl,size:=Nat.le_refl _,tape:=rfl,os:=rfl,output:=rfl,drawn:=Nat.le_refl _,
     cB:=λd o Z=>by simp[Y.get]at Z,dn:=λd eD Z=>by simp[Y.get]at Z,keep:=λd Z=>by simp at Z}
  refine Calls.mono (cE _ w (iq w) β _ fA sn.IX) ?_;rintro e w' ⟨v,he,r',σ2,aS,β',⟨oE,jR⟩,jg,eS⟩;subst oE jR;have ki:bS G cx I β az w':=aq.stay (λb V=>eS.frame b V (by simp[mE,te,Y.ids])) eS.size eS.tape eS.os eS.output eS.drawn;exact⟨v,he,I,β,ar.jO r' v ax jg,ki,b7.refl I,λ_ _=>rfl⟩
mutual
def U.oO:U→Bool
 |.int _ _=>true
 |.bool _=>true
 |.str _=>true
 |.undef=>true
 |.own _=>true
 |.cD cs=>Dw cs
 |.agg cs=>Dw cs
 |_=>false
def Dw:List U→Bool
 |[]=>true
 |x::r=>x.oO&&Dw r
end
mutual
theorem ar.oO{I aS:bw}{β:Nat→Value}:∀(a:U) (v:Value),a.oO=true→ar I β a v→ar aS β a v
 |.int _ _,v,_,h=>by simpa only[ar,aO]using h
 |.bool _,v,_,h=>by simpa only[ar,aO]using h
 |.str _,v,_,h=>by simpa only[ar,aO]using h
 |.undef,v,_,h=>by simpa only[ar,aO]using h
 |.own d,v,_,h=>by simpa only[ar]using h
 |.cD cs,v,W,h=>by
  simp only[ar,U.oO]at h W ⊢;obtain⟨vs,h1,D⟩:=h;exact⟨vs,h1,bO.oO cs _ W D⟩
 |.agg cs,v,W,h=>by
  simp only[ar,U.oO]at h W ⊢;obtain⟨vs,h1,D⟩:=h;exact⟨vs,h1,bO.oO cs _ W D⟩
 |.gq,_,W,_|.aX _ _,_,W,_|.fP _,_,W,_|.fn _ _,_,W,_|.cV,_,W,_|.mm,_,W,_|.ptr _ _,_,W,_|.dm _,_,W,_|.gp _ _,_,W,_|.kD,_,W,_|.fm _ _,_,W,_=>by simp[U.oO]at W
theorem bO.oO{I aS:bw}{β:Nat→Value}:∀(a:List U) (v:List Value),Dw a=true→bO I β a v→bO aS β a v
 |[],v,_,h=>h
 |x::r,v,W,h=>by
  simp only[bO,Dw,Bool.and_eq_true]at h W ⊢;obtain⟨ay,bF,h1,D,ak⟩:=h;exact⟨ay,bF,h1,ar.oO x ay W.1 D,bO.oO r bF W.2 ak⟩
end
theorem uI.get:∀{σ:Y} {d:Nat} {o:cn},uI σ→σ.get d=some o→Im o
 |[],_,_,_,h=>by simp[Y.get]at h
 |(x,v)::r,d,o,be,h=>by
  obtain⟨p,bU,_,dP⟩:=p8 ((x,v)::r) d o h;have:∀(σ:Y),uI σ→∀p∈σ,Im p.2:=by
   intro σ;induction σ with
   |nil=>intro _ p aB;simp at aB
   |cons q r bD=>
    intro be p aB;rcases List.mem_cons.1 aB with rfl|aB
    ·exact be.1
    ·exact bD be.2 p aB
  rw[←dP];exact this _ be p bU
theorem Y0{α:Type}(e:iU α)(he:∀x,oe (e.enc x)=true)(l:List α):∀r∈aD e l,oe r=true:=λr ax=>by
 obtain⟨x,_,rfl⟩:=List.mem_map.1 ax;exact he x
theorem TB:∀{a b:List U},oe a=true→oe b=true→oe (a++b)=true
 |[],_,_,h=>h
 |x::r,b,aC,V=>by
  simp only[List.cons_append,oe,Bool.and_eq_true]at aC ⊢;exact⟨aC.1,TB aC.2 V⟩
theorem To:∀{xs:List (List U)},(∀e∈xs,oe e=true)→oe xs.flatten=true
 |[],_=>rfl
 |x::r,h=>by
  rw[List.flatten_cons];exact TB (h x (by simp)) (To λe he=>h e (by simp[he]))
mutual
theorem aO.jO{I aS:bw}:∀(a:U) (v:Value),a.jO=true→aO I a v→aO aS a v
 |.int _ _,v,_,h=>by simpa only[aO]using h
 |.bool _,v,_,h=>by simpa only[aO]using h
 |.str _,v,_,h=>by simpa only[aO]using h
 |.undef,v,_,h=>by simpa only[aO]using h
 |.cD cs,v,W,h=>by
  simp only[aO,U.jO]at h W ⊢;obtain⟨vs,h1,D⟩:=h;exact⟨vs,h1,b9.jO cs _ W D⟩
 |.agg cs,v,W,h=>by
  simp only[aO,U.jO]at h W ⊢;obtain⟨vs,h1,D⟩:=h;exact⟨vs,h1,b9.jO cs _ W D⟩
 |.gq,_,W,_|.aX _ _,_,W,_|.fP _,_,W,_|.fn _ _,_,W,_|.cV,_,W,_|.mm,_,W,_|.own _,_,W,_|.ptr _ _,_,W,_|.dm _,_,W,_|.gp _ _,_,W,_|.kD,_,W,_|.fm _ _,_,W,_=>by simp[U.jO]at W
theorem b9.jO{I aS:bw}:∀(a:List U) (v:List Value),oe a=true→b9 I a v→b9 aS a v
 |[],v,_,h=>h
 |x::r,v,W,h=>by
  simp only[b9,oe,Bool.and_eq_true]at h W ⊢;obtain⟨ay,bF,h1,D,ak⟩:=h;exact⟨ay,bF,h1,aO.jO x ay W.1 D,b9.jO r bF W.2 ak⟩
end
theorem Ga:∀σ:Y,Y.minus [] σ=σ
 |[]=>rfl
 |(d,o)::r=>by simp only[Y.minus,List.contains_nil,cond_false,Ga r]
theorem en.Iy{aF:List U}{σ2:Y}(n:Nat)(news:List Nat)(h:o.op=.call ⟨.value gH,args,k⟩)(be:env.ev gH=.fn f aF)
    (nG:∀(args:Array Value) (w:World),(callFunc f args).run G.P w=.ok (.enter f args) w) (cE:gi G.P f [] cO (λa az=>a=r∧az=σ2)) (aB:env.nI args.toList=some ps) (aC:qg (yy n σs) (ps++aF)=some cO) (W:qn σ σs)
    (aT:news.all (λd=>!G.ids.contains d&&(σ.get d).isNone)=true) (hJ:σ.clean news.contains=true) (ax:r.oO=true) (jR:r.refs (λd=>!news.contains d)=false) (D:σ2.clean (λd=>!news.contains d)=true) (zl:uI σ2) :
    g8 G o env.ev σ news news (λa az=>a=r∧az=σ2++σ):=by
  intro cx I β w aP aq hop;have iO:=hop gH (by simp[h,Op.operands,Call.operands]);rw[be]at iO;simp only[ar]at iO;obtain⟨vs,iO,mF⟩:=iO;rw[zT h iO nG]
  have vQ:=aq.sub (σ2:=σs) λd o Z=>by
    obtain⟨p,bU,cG,dP⟩:=p8 σs d o Z;rw[←cG,←dP];exact W.mem p bU
  have lB:=pQ _ _ _ _ (v2 env.ev aP args.toList λx u=>hop x (by simp only[h,Op.operands,Call.operands];simp;right;simpa using u)) mF;rw[ai.v7 aB]at lB;have sn:=x6 (J:=iq w) (NF vQ n) aC _ lB
  have fA:bS ⟨G.P,0,[]⟩ (mE (iq w) β [] w) (iq w) β [] w:=
    {good:=CY,h9:=CQ,ja:=b7.refl _,iL:=λ_ _ _ _=>rfl,frame:=λ_ _ _=>rfl,size:=Nat.le_refl _,tape:=rfl,os:=rfl,output:=rfl,drawn:=Nat.le_refl _,
     cB:=λd o Z=>by simp[Y.get]at Z,dn:=λd eD Z=>by simp[Y.get]at Z,keep:=λd Z=>by simp at Z}
  refine Calls.mono (cE _ w (iq w) β _ fA sn.IX) ?_;rintro e w' ⟨v,he,r',σ3,aS,β',⟨oE,qU⟩,jg,eS⟩;subst oE qU;have xP:∀b,b<w.heap.size→w'.heap[b]?=w.heap[b]?:=λb V=>eS.frame b V (by simp[mE,te])
  have ml:∀b,Place (mE (iq w) β [] w) b→w.heap.size≤b:=λb V=>by
    rcases V with V|V
    · exact V
    · simp[mE,te]at V
  have key:bS ⟨G.P,0,[]⟩ (mE I β [] w) (λb o=>if b<w.heap.size then I b o else aS b o) β' σ3 w':=
    {good:=λb o v af=>by
        by_cases V:b<w.heap.size
        · simp only[V,if_true]at af
          have h1:=aq.good b o v af;rw[World.cell?_of_block (w:=w) (xP b V)];exact h1
        · simp only[V,if_false]at af
          exact eS.good b o v af
     h9:=λb v af=>by
        by_cases V:b<w.heap.size
        · simp only[V,if_true]at af
          obtain⟨es,clock,h1,D⟩:=aq.h9 b v af;exact⟨es,clock,by rw[xP b V];exact h1,D⟩
        · simp only[V,if_false]at af
          exact eS.h9 b v af
     ja:=λb o v af=>by
        have bQ:b<w.heap.size:=aq.ZY af;simp only[bQ,if_true];exact af
     iL:=λb V _ o=>by
        have V:b<w.heap.size:=V;simp only[V,if_true];rfl
     frame:=λb V _=>xP b V
     size:=eS.size,tape:=eS.tape,os:=eS.os,output:=eS.output,drawn:=eS.drawn
     cB:=λd o Z=>by
        have aj:=eS.cB d o Z;have o8:=zl.get Z;cases o with
        |slice T sz xs hj cU=>
          simp only[aU]at aj ⊢;rcases aj with q|q|⟨b,aF,arr,an,au,aK,aG,bb,bC,bY,cK,di,ec,e3⟩
          · exact .inl q
          · exact .inr (.inl q)
          · have V:=ml b e3
            have ET:¬b<w.heap.size:=by omega
            refine .inr (.inr ⟨b,aF,arr,an,au,aK,aG,bb,b9.jO _ _ (To o8) bC,bY,cK,?_,?_,.inl V⟩)
            · simp only[ET,if_false];exact di
            · simp only[ET,if_false];exact ec
        |cells _ _=>exact absurd o8 id
        |map _ _ _=>exact absurd o8 id
        |win _ _ _=>exact absurd o8 id
        |k4 _ _ _=>exact absurd o8 id
        |gj _ _ _ _ _=>exact absurd o8 id
        |iter _ _ _ _=>exact absurd o8 id
        |hdr _ _=>exact absurd o8 id
        |cS _=>exact absurd o8 id
        |fV _ _ _ _=>exact absurd o8 id
        |gZ _ _ _=>exact absurd o8 id
        |vec _ _=>exact absurd o8 id
        |ig _ _ _ _=>exact absurd o8 id
        |iX _ _ _ _ _ _=>exact absurd o8 id
     dn:=eS.dn,keep:=λd Z=>by simp at Z}
  have zw:∀d∈news,d∉G.ids∧σ.get d=none:=λd Z=>by
    have:=List.all_eq_true.1 aT d Z;simpa using this
  have hm:σ.minus (Y.ids [])=σ:=Ga σ;obtain⟨cF,cW,ht⟩:=aq.after (dB:=[]) (by simp) key news zw (by rw[hm];exact hJ) (by simpa [Y.ids]using D);rw[hm]at cF;refine⟨v,he,r',_,_,_,⟨rfl,rfl⟩,ht r' v (by simpa [Y.ids]using jR) (ar.oO r' v ax jg),cF,cW,λd Z=>by simp[Z],λd Z=>?_⟩;rw[Y.um];cases bc:σ3.get d with
  |some g4=>
    have:=(Y.iu D d g4 bc).1;have:news.contains d=true:=by rw[←Bool.not_eq_false'];exact this
    exact absurd (List.contains_iff_mem.1 this) Z
  |none=>rfl
def Ea(op:BinOp)(k:IntKind)(m n:Int):Option U:=match op with
 |.add=>some (.int k (k.wrap (m+n)))
 |.sub=>some (.int k (k.wrap (m-n)))
 |.mul=>some (.int k (k.wrap (m*n)))
 |.lss=>some (.bool (decide (m<n)))
 |.leq=>some (.bool (decide (m≤n)))
 |.gtr=>some (.bool (decide (n<m)))
 |.geq=>some (.bool (decide (n≤m)))
 |.eql=>some (.bool (decide (m=n)))
 |.neq=>some (.bool (!decide (m=n)))
 |.and=>some (.int k (kN .and k m n))
 |.or=>some (.int k (kN .or k m n))
 |.xor=>some (.int k (kN .xor k m n))
 |.andNot=>some (.int k (kN .andNot k m n))
 |_=>none
def Pu(bH:gC)(env:ai)(σ:Y)(c:Call):Option (List Nat×U):=match c.callee with
 |.builtin b=>(match b with
  |.len=>(match c.args.toList with
   |[x]=>(match c.argTypes.toList with
    |[T]=>(match bH.get T with
     |some ⟨_,_,_,.slice _ _ _ _⟩=>(match env.cz x with
      |some (.aX _ xs)=>some ([],.int .i64 (xs.length:Int))
      |some .cV=>some ([],.int .i64 0)
      |some (.own d)=>(match σ.get d with|some (.slice _ _ xs _ _)=>some ([d],.int .i64 (xs.length:Int))|some (.win _ _ xs)=>some ([d],.int .i64 (xs.length:Int))|_=>none)
      |_=>none)
     |some ⟨_,_,_,.str⟩=>(match env.cz x with|some (.str s)=>some ([],.int .i64 (s.size:Int))|_=>none)
     |_=>none)
    |_=>none)
   |_=>none)
  |.min=>(match c.args.toList with
   |[x,y]=>(match env.cz x with
    |some (.int k m)=>(match env.cz y with|some (.int _ n)=>some ([],.int k (if n<m then n else m))|_=>none)
    |_=>none)
   |_=>none)
  |.max=>(match c.args.toList with
   |[x,y]=>(match env.cz x with
    |some (.int k m)=>(match env.cz y with|some (.int _ n)=>some ([],.int k (if n>m then n else m))|_=>none)
    |_=>none)
   |_=>none)
  |_=>none)
 |_=>none
def Jb(bH:gC)(env:ai)(σ:Y):Op→Option (List Nat×U)
 |.move x|.assign x=>match env.cz x with|none=>none|some a=>some ([],a)
 |.pick c x y=>match env.cz c with
  |some (.bool true)=>(match env.cz x with|none=>none|some a=>some ([],a))
  |some (.bool false)=>(match env.cz y with|none=>none|some a=>some ([],a))
  |_=>none
 |.fieldAddr T x f=>match bH.get T with
  |some ⟨_,_,_,.struct _ fe _⟩=>(match fe[f]? with
   |none=>none
   |some (off,_)=>match env.cz x with
    |some (.ptr d p)=>some ([],.ptr d (p+off))
    |some (.fP cs)=>(match spine (cs.drop off)with|none=>none|some l=>some ([],.fP l))
    |_=>none)
  |_=>none
 |.field T x f=>match bH.get T with
  |some ⟨_,_,_,.struct _ fe o1⟩=>(match fe[f]? with
   |none=>none
   |some (off,n)=>match o1[f]? with
    |none=>none
    |some dr=>match env.cz x with
     |some (.agg cs)=>bif Nat.ble (off+n) cs.length then(match nK dr n (cs.drop off)with|none=>none|some a=>some ([],a))else none
     |_=>none)
  |_=>none
 |.load T x=>match bH.get T with
  |none=>none
  |some i=>match env.cz x with
   |some (.ptr d p)=>(match σ.get d with
    |some (.cells _ cs)=>bif (i.dr||Nat.blt 0 i.sz)&&Nat.ble (p+i.sz) cs.length then(match nK i.dr i.sz (cs.drop p)with|none=>none|some a=>some ([d],a))else none
    |_=>none)
   |some (.fP cs)=>bif (i.dr||Nat.blt 0 i.sz)&&Nat.ble i.sz cs.length then(match nK i.dr i.sz cs with|none=>none|some a=>some ([],a))else none
   |_=>none
 |.binOp op T x y _=>match env.cz x with
  |some (.int k m)=>(match env.cz y with
   |some (.int eM n)=>bif decide (k=eM)then(match Ea op k m n with|none=>none|some a=>some ([],a))else none
   |_=>none)
  |some (.bool a)=>(match bH.get T with
   |some ⟨_,_,_,.bool⟩=>(match env.cz y with
    |some (.bool b)=>(match op with
     |.eql=>some ([],.bool (a==b))
     |.neq=>some ([],.bool (!(a==b)))
     |_=>none)
    |_=>none)
   |_=>none)
  |_=>none
 |.unOp op _ x=>match op with
  |.not=>(match env.cz x with|some (.bool b)=>some ([],.bool (!b))|_=>none)
  |.neg=>(match env.cz x with|some (.int k n)=>some ([],.int k (k.wrap (0-n)))|_=>none)
  |_=>none
 |.convert T aW x=>match bH.get T with
  |some ⟨_,_,_,.int _⟩=>(match bH.get aW with
   |some ⟨_,_,_,.int eM⟩=>(match env.cz x with|some (.int _ n)=>some ([],.int eM (eM.wrap n))|_=>none)
   |_=>none)
  |_=>none
 |.extract x j=>match env.cz x with
  |some (.cD vs)=>(match vs[j]? with|none=>none|some a=>some ([],a))
  |_=>none
 |.nilCheck x=>match env.cz x with
  |some (.ptr d p)=>some ([],.ptr d p)
  |some (.fP cs)=>some ([],.fP cs)
  |_=>none
 |.build T parts=>match bH.get T with
  |some ⟨_,_,_,.struct zs fe _⟩=>(match env.rA parts.toList with
   |none=>none
   |some ps=>match yw fe (qe zs) ps with|none=>none|some cs=>some ([],.agg cs))
  |_=>none
 |.buildSlice T len parts=>match bH.get T with
  |some ⟨_,_,_,.slice _ sz _ _⟩=>bif Nat.beq parts.size len&&(Nat.ble (len*sz) 65536&&Nat.ble len 65536)then(match env.rA parts.toList with
   |none=>none
   |some ps=>match ur sz 0 (Bl ps)with
    |none=>none
    |some xs=>bif kL xs.flatten then some ([],.aX true xs)else none)else none
  |_=>none
 |.makeFunc fn first aF=>match fn with
  |.func f=>(match first.toList with
   |[]=>(match env.nI aF.toList with|none=>none|some l=>some ([],.fn f l))
   |_=>none)
  |_=>none
 |.call c=>Pu bH env σ c
 |_=>none
end
section
section
variable {P:Program}{N:Nat}{ids:List Nat}{bH:gC}{o:Oper}{env:ai}{σ:Y}
theorem bG.aiB{G:cq}{ev:Operand→U}{T:TypeId}{x:Operand}{k:IntKind}{n:Int}(h:o.op=.unOp .neg T x)(u:ev x=.int k n):Yields G o ev σ [] [] (.int k (k.wrap (0-n))):=
 .pure λ_ _ I β w aP _ _ hop=>by
  have h1:=hop x (by simp[h,Op.operands]);rw[u]at h1;have h1:=iH h1
  exact⟨.int k (k.wrap (0-n)),by simp only[execOp,h,h1,Op.unary,Op.intArith];rfl,by simp[ar,aO]⟩
theorem bG.aiS{G:cq}{ev:Operand→U}{T aW:TypeId}{x y:Operand}{k:IntKind}{m n:Int}(h:o.op=.binOp .quo T x y aW)(u:ev x=.int k m)(ah:ev y=.int k n)(aT:n≠0):Yields G o ev σ [] [] (.int k (k.wrap (m.tdiv n))):=
 bG.int h u ah (by decide) (λw=>by simp[Op.intDiv,aT];rfl) (λ_ _=>by simp only[ar,aO])
theorem ym(xs:List (List U)):xs.map id=xs:=List.map_id xs
theorem bG.Vx{G:cq}{o:Oper}{ev:Operand→U}{σ:Y}{T E sz len d:Nat}{parts:Array (Nat×Operand)}{zs:List Value}{xs:List (List U)}(h:o.op=.buildSlice T len parts)(aH:ku G.P T E sz zs)(aJ:parts.size=len)(W:len*sz≤65536∧len≤65536)
  (be:tf sz 0 (parts.toList.map λp=>(p.1,ev p.2))=some xs) (aa:kL xs.flatten=true) (hi:G.ids.contains d=false):Yields G o ev ((d,.slice E sz xs 0 false)::σ) [d] [d] (.own d):=by
 intro az cx I β w aP b2 aq hm hop;have h1:∀p∈parts.toList,ar I β (ev p.2) (aP p.2):=λp aB=>hop p.2 (by simp only[h,Op.operands];simpa using ⟨p.1,by simpa using aB⟩);obtain⟨z,i6,iR⟩:=aH.zero w
 let L:Array Value:=(Array.range (len*sz)).map ((if len*sz=0 then #[]else z.cells)[·%(if len*sz=0 then #[]else z.cells:Array Value).size]!)
 have vz:L.size=len*sz:=by simp[L]
 obtain⟨r,bF,hr,hl,oZ,pK,wL,uS⟩:=FQ (I:=I) (β:=β) sz (parts.toList.map λp=>(p.1,ev p.2)) (parts.toList.map λp=>(p.1,aP p.2)) 0 L xs
  ⟨by simp,λj p q aM bR=>by
   simp only[List.getElem?_map]at aM bR;cases u:parts.toList[j]? with
   |none=>rw[u]at aM;cases aM
   |some y=>
    rw[u]at aM bR;simp only[Option.map_some,Option.some.injEq]at aM bR;subst aM bR;exact⟨rfl,h1 y (List.mem_of_getElem? u)⟩⟩ be (by simp[vz,aJ])
 have zA:r.toList=bF:=by
  rw[oZ];have e0:L.toList.drop ((0+(parts.toList.map λp=>(p.1,ev p.2)).length)*sz)=[]:=List.drop_of_length_le (by simp[vz,aJ]);rw[e0];simp
 have n4:xs.length=len:=by rw[uS];simp[aJ]
 have eX:(execOp aP o).run G.P w=.ok (.value (.slice (some ⟨w.heap.size,0,none⟩) len len)) (w.alloc (.cells r E)):=by
  have B5:¬(len*sz>2 ^ 24):=by have:(2:Nat) ^ 24=16777216:=by decide
                               omega
  have nF:Instr.fill (λi=>some (i*sz,sz)) L (parts.map λ(i,x)=>(i,aP x)).toList=some r:=by simpa using hr
  simp only[execOp,h,Instr.buildSlice,Sem.run_bind,run_underlying aH.gv,aH.size,Result.andThen_ok,B5,if_false];by_cases bJ:len*sz=0
  ·have rZ:L=(Array.range (len*sz)).map ((#[]:Array Value)[·%(#[]:Array Value).size]!):=by simp only[L,bJ,if_true]
   rw[rZ]at nF;simp only[bJ,if_true,Sem.run_bind,Sem.run_pure,Result.andThen_ok]at nF ⊢;simp only[nF];simp[newRow]
  ·have rZ:L=(Array.range (len*sz)).map (z.cells[·%z.cells.size]!):=by simp only[L,bJ,if_false]
   rw[rZ]at nF;simp only[bJ,if_false,Sem.run_bind,i6,Sem.run_pure,Result.andThen_ok];simp only[nF];simp[newRow]
 rw[eX];have k2:=hm d (by simp);have EY:=wL;have zl:=vS xs EY;have SB:bF.length=xs.length*sz:=by rw[qN _ _ pK,zl]
 refine⟨I,g9 β d (.slice (some ⟨w.heap.size,0,none⟩) len len),by simp only[ar];exact⟨(g7 _ _ _).symm,rfl⟩,?_,b7.refl I,λx u=>gU β _ (λe=>u (by simp[e]))⟩;refine aq.real (by simpa using hi) k2 rfl λaI b3=>?_;rw[b2 d (by simp),Y.c4,if_pos rfl]at b3;injection b3 with b3
 subst b3;simp only[aU,g7];refine .inr (.inr ⟨w.heap.size,len,r,by rw[n4],by omega,by simp only[maxLen];omega,heap_alloc_new w _,?_,?_,EY,by omega,(λh=>by cases h),λo _=>aq.ic (Nat.le_refl _) o,.inl aq.size⟩)
 ·rw[←Array.length_toList,zA,SB,n4]
 ·rw[zA,List.take_of_length_le (by rw[SB];exact Nat.le_refl _)];exact bO.closed _ _ aa pK
theorem bG.ad5{G:cq}{ev:Operand→U}{gH:Operand}{args:Array Operand}{k:Array TypeId}{f:FuncId}{aF cO:List U}{σs:Y}{r:U}(h:o.op=.call ⟨.value gH,args,k⟩)(be:ev gH=.gp f aF)
  (nG:∀(args:Array Value) (w:World),(callFunc f args).run G.P w=.ok (.enter f args) w) (W:∀p∈σs,σ.get p.1=some p.2) (aC:jD σs (args.toList.map ev) cO)
  (cE:ef G.P f [] (cO++aF) r) (ax:r.closed=true):Yields G o ev σ [] σs.ids r:=by
 intro az cx I β w aP b2 aq _ hop;have iO:=hop gH (by simp[h,Op.operands,Call.operands]);rw[be]at iO;simp only[ar,aO]at iO;obtain⟨vs,iO,mF⟩:=iO;rw[zT h iO nG]
 have jq:∀d o,σs.get d=some o→az.get d=some o:=λd o Z=>by
  obtain⟨p,bU,cG,dP⟩:=p8 σs d o Z;rw[b2 d (by rw[←cG];exact List.mem_map.2 ⟨p,bU,rfl⟩),←cG,←dP];exact W p bU
 have vQ:=aq.sub jq;have lB:=v2 ev aP args.toList λx u=>hop x (by simp only[h,Op.operands,Call.operands];simp;right;simpa using u);have sn:=pQ _ _ _ _ (aC.rep vQ _ lB) (b9.rep β _ _ mF);have fA:=aq.w5 (P:=G.P) (dB:=[]) (by simp);refine Calls.mono (cE _ w I β _ fA sn) ?_;rintro e w' ⟨v,he,r',σ2,aS,β',⟨oE,jR⟩,jg,eS⟩;subst oE jR;obtain⟨h1,D,ak⟩:=aq.after (dB:=[]) (by simp) eS [] (by simp) (Y.pR _) rfl;refine⟨v,he,aS,β,?_,?_,D,λ_ _=>rfl⟩
 ·exact aO.rep β _ _ (ar.closed r' v ax jg)
 ·refine({h1 with}:bS G cx aS β ([]++az.minus (Y.ids [])) w').sub λd o Z=>?_;rw[Y.um,Y.jW];simpa [Y.get,Y.ids]using Z
theorem bG.aiv{G:cq}{ev:Operand→U}{x y:Operand}{k eM:IntKind}{m n:Int}{ts:Array TypeId}(h:o.op=.call ⟨.builtin .min,#[x,y],ts⟩)(u:ev x=.int k m)(ah:ev y=.int eM n):Yields G o ev σ [] [] (.int k (if n<m then n else m)):=
 .pure λ_ _ I β w aP _ _ w4=>by
  have h1:=w4 x (by simp[h,Op.operands,Call.operands]);rw[u]at h1;have h1:=iH h1
  have D:=w4 y (by simp[h,Op.operands,Call.operands]);rw[ah]at D;have D:=iH D
  exact⟨.int k (if n<m then n else m),by simp[execOp,h,resolve,invoke,builtin,Builtin.min_,Builtin.min2,h1,D],by simp[ar,aO]⟩
theorem bG.aiu{G:cq}{ev:Operand→U}{x y:Operand}{k eM:IntKind}{m n:Int}{ts:Array TypeId}(h:o.op=.call ⟨.builtin .max,#[x,y],ts⟩)(u:ev x=.int k m)(ah:ev y=.int eM n):Yields G o ev σ [] [] (.int k (if n>m then n else m)):=
 .pure λ_ _ I β w aP _ _ w4=>by
  have h1:=w4 x (by simp[h,Op.operands,Call.operands]);rw[u]at h1;have h1:=iH h1
  have D:=w4 y (by simp[h,Op.operands,Call.operands]);rw[ah]at D;have D:=iH D
  exact⟨.int k (if n>m then n else m),by simp[execOp,h,resolve,invoke,builtin,Builtin.max_,Builtin.max2,h1,D],by simp[ar,aO]⟩
theorem Y1{op:BinOp}{T aW:TypeId}{x y:Operand}{k:IntKind}{m n:Int}{a:U}(h:o.op=.binOp op T x y aW)(u:env.ev x=.int k m)(ah:env.ev y=.int k n)(V:Ea op k m n=some a):Yields ⟨P,N,ids⟩ o env.ev σ [] [] a:=by
 cases op<;>simp only[Ea,Option.some.injEq]at V<;>first|cases V|skip
 all_goals (try subst V)
 ·exact bG.Wg h u ah
 ·exact bG.ajw h u ah
 ·exact bG.aiy h u ah
 ·exact bG.and h u ah
 ·exact bG.or h u ah
 ·exact bG.xor h u ah
 ·exact bG.andNot h u ah
 ·exact bG.eql h u ah
 ·exact bG.neq h u ah
 ·exact bG.lss h u ah
 ·exact bG.leq h u ah
 ·exact bG.gtr h u ah
 ·exact bG.geq h u ah
theorem aa3(a1:ji P bH){R:List Nat}{bE:U}(h:Jb bH env σ o.op=some (R,bE)):Yields ⟨P,N,ids⟩ o env.ev σ [] R bE:=by
 cases aj:o.op<;>rw[aj]at h<;>simp only[Jb]at h
 case move x=>
  cases u:env.cz x with
  |none=>rw[u]at h;cases h
  |some a=>rw[u]at h;cases h;rw[←ai.b5 u];exact bG.move aj
 case assign x=>
  cases u:env.cz x with
  |none=>rw[u]at h;cases h
  |some a=>rw[u]at h;cases h;rw[←ai.b5 u];exact bG.assign aj
 case pick c x y=>
  split at h
  ·rename_i aa;cases u:env.cz x with
   |none=>rw[u]at h;cases h
   |some a=>rw[u]at h;cases h;rw[←ai.b5 u];exact bG.HS aj (ai.b5 aa) rfl
  ·rename_i aa;cases u:env.cz y with
   |none=>rw[u]at h;cases h
   |some a=>rw[u]at h;cases h;rw[←ai.b5 u];exact bG.HT aj (ai.b5 aa) rfl
  ·cases h
 case fieldAddr T x f=>
  split at h
  ·rename_i sz dr al2 zs fe o1 aH;split at h
   ·cases h
   ·rename_i off n be;have hk:=(jf.get a1.tys aH).kd;simp only[l0]at hk;split at h
    ·rename_i d p u;cases h;exact bG.ZQ aj (ai.b5 u) (hk.2.1 _ _ _ be)
    ·rename_i cs u;cases W:spine (cs.drop off)with
     |none=>rw[W]at h;cases h
     |some l=>rw[W]at h;cases h;rw[←tb W];exact bG.ZR aj (ai.b5 u) (hk.2.1 _ _ _ be)
    ·cases h
  ·cases h
 case field T x f=>
  split at h
  ·rename_i sz dr al2 zs fe o1 aH;split at h
   ·cases h
   ·rename_i off n be;split at h
    ·cases h
    ·rename_i XE agk;have hk:=(jf.get a1.tys aH).kd;simp only[l0]at hk;split at h
     ·rename_i cs u;cases V:Nat.ble (off+n) cs.length with
      |false=>rw[V]at h;cases h
      |true=>
       rw[V]at h;simp only[cond_true]at h;cases W:nK XE n (cs.drop off)with
       |none=>rw[W]at h;cases h
       |some a=>rw[W]at h;cases h;exact bW.field aj (ai.b5 u) (hk.2.2 _ _ _ _ be agk) V W
     ·cases h
  ·cases h
 case load T x=>
  split at h
  ·cases h
  ·rename_i i aH;have hk:=(jf.get a1.tys aH).ty;split at h
   ·rename_i d p u;split at h
    ·rename_i aW cs Z;cases V:((i.dr||Nat.blt 0 i.sz)&&Nat.ble (p+i.sz) cs.length)with
     |false=>rw[V]at h;cases h
     |true=>
      rw[V]at h;simp only[cond_true]at h;simp only[Bool.and_eq_true]at V;cases W:nK i.dr i.sz (cs.drop p)with
      |none=>rw[W]at h;cases h
      |some a=>rw[W]at h;cases h;exact bW.Ig aj (ai.b5 u) hk Z V.1 V.2 W
    ·cases h
   ·rename_i cs u;cases V:((i.dr||Nat.blt 0 i.sz)&&Nat.ble i.sz cs.length)with
    |false=>rw[V]at h;cases h
    |true=>
     rw[V]at h;simp only[cond_true]at h;simp only[Bool.and_eq_true]at V;cases W:nK i.dr i.sz cs with
     |none=>rw[W]at h;cases h
     |some a=>rw[W]at h;cases h;exact bW.Ih aj (ai.b5 u) hk V.1 V.2 W
   ·cases h
 case binOp op T x y aW=>
  split at h
  ·rename_i k m u;split at h
   ·rename_i eM n ah;cases xR:decide (k=eM)with
    |false=>rw[xR]at h;cases h
    |true=>
     rw[xR]at h;simp only[cond_true]at h;have:=of_decide_eq_true xR;subst this;cases V:Ea op k m n with
     |none=>rw[V]at h;cases h
     |some a=>rw[V]at h;cases h;exact Y1 aj (ai.b5 u) (ai.b5 ah) V
   ·cases h
  ·rename_i a u;split at h
   ·rename_i aH;have hk:=(jf.get a1.tys aH).kd;simp only[l0]at hk;split at h
    ·rename_i b ah;split at h
     ·cases h;exact bG.ae3 aj (ai.b5 u) (ai.b5 ah) hk
     ·cases h;exact bG.ae5 aj (ai.b5 u) (ai.b5 ah) hk
     ·cases h
    ·cases h
   ·cases h
  ·cases h
 case unOp op T x=>
  split at h
  ·split at h
   ·rename_i b u;cases h;exact bG.not aj (ai.b5 u)
   ·cases h
  ·split at h
   ·rename_i k n u;cases h;exact bG.aiB aj (ai.b5 u)
   ·cases h
  ·cases h
 case convert T aW x=>
  split at h
  ·rename_i aH;split at h
   ·rename_i eM BW;split at h
    ·rename_i k n u;cases h
     have h1:=(jf.get a1.tys aH).kd;have D:=(jf.get a1.tys BW).kd;simp only[l0]at h1 D;exact bG.convert aj (ai.b5 u) ⟨_,h1⟩ D
    ·cases h
   ·cases h
  ·cases h
 case extract x j=>
  split at h
  ·rename_i vs u;cases aM:vs[j]? with
   |none=>rw[aM]at h;cases h
   |some a=>rw[aM]at h;cases h;exact bG.extract aj (ai.b5 u) aM
  ·cases h
 case nilCheck x=>
  split at h
  ·rename_i d p u;cases h;exact bG.Wn aj (ai.b5 u)
  ·rename_i cs u;cases h;exact bG.Wo aj (ai.b5 u)
  ·cases h
 case build T parts=>
  split at h
  ·rename_i aH;have hk:=(jf.get a1.tys aH).kd;simp only[l0]at hk;split at h
   ·cases h
   ·rename_i ps aB;split at h
    ·cases h
    ·rename_i cs be;cases h;exact bW.build aj hk.1 aB be
  ·cases h
 case buildSlice T len parts=>
  split at h
  ·rename_i aH;have hk:=(jf.get a1.tys aH).kd;simp only[l0]at hk;generalize V:(Nat.beq parts.size len&&_)=dY at h;cases dY with
   |false=>cases h
   |true=>
    simp only[cond_true]at h;rw[Bool.and_eq_true]at V;split at h
    ·cases h
    ·rename_i ps aB;split at h
     ·cases h
     ·rename_i xs be;cases aa:kL xs.flatten with
      |false=>rw[aa]at h;cases h
      |true=>rw[aa]at h;cases h;exact(bG.buildSlice aj hk.2.2 (by simpa using V.1) (by simpa using V.2) (by rw[←L8,ai.z7 aB];exact CJ _ be) aa).off
  ·cases h
 case makeFunc fn first aF=>
  split at h
  ·rename_i f;split at h
   ·rename_i be;split at h
    ·cases h
    ·rename_i l aJ;cases h
     have:first=#[]:=by simpa using be
     subst this;exact bW.makeFunc aj aJ
   ·cases h
  ·cases h
 case call c=>
  obtain⟨cl,args,tys⟩:=c;simp only[Pu]at h;split at h
  ·rename_i b;split at h
   ·split at h
    ·rename_i x kQ;have:args=#[x]:=Array.toList_inj.1 (by simpa using kQ);subst this;split at h
     ·rename_i T xI;have:tys=#[T]:=Array.toList_inj.1 (by simpa using xI);subst this;split at h
      ·rename_i aH;have hk:=(jf.get a1.tys aH).kd;simp only[l0]at hk;split at h
       ·rename_i f xs u;cases h;exact bG.P8 (rs:=xs) (enc:=id) aj rfl (by rw[ym];exact ai.b5 u) hk.1.gv
       ·rename_i u;cases h;exact bG.aim aj rfl (ai.b5 u) hk.1.gv
       ·rename_i d u;split at h
        ·rename_i Z;cases h;exact bG.P9 (enc:=id) aj rfl (ai.b5 u) (by rw[ym];exact Z) hk.1.gv
        ·rename_i xs Z;cases h;exact Yields.win Z (bG.P8 (rs:=xs) (enc:=id) aj rfl (by rw[ym];exact Uk (ai.b5 u)) hk.1.gv)
        ·cases h
       ·cases h
      ·rename_i aH;have hk:=(jf.get a1.tys aH).kd;simp only[l0]at hk;split at h
       ·rename_i s u;cases h;exact bG.ain aj rfl (ai.b5 u) hk
       ·cases h
      ·cases h
     ·cases h
    ·cases h
   ·split at h
    ·rename_i jv jc kQ;have:args=#[jv,jc]:=Array.toList_inj.1 (by simpa using kQ);subst this;split at h
     ·rename_i k m u;split at h
      ·rename_i eM n ah;cases h;exact bG.aiv aj (ai.b5 u) (ai.b5 ah)
      ·cases h
     ·cases h
    ·cases h
   ·split at h
    ·rename_i jv jc kQ;have:args=#[jv,jc]:=Array.toList_inj.1 (by simpa using kQ);subst this;split at h
     ·rename_i k m u;split at h
      ·rename_i eM n ah;cases h;exact bG.aiu aj (ai.b5 u) (ai.b5 ah)
      ·cases h
     ·cases h
    ·cases h
   ·cases h
  ·cases h
 all_goals cases h
end
end
section
def sv(env:ai)(c:Call):Option (FuncId×List U):=match c.callee with
 |.value gH=>(match env.cz gH with
  |some (.fn f aF)=>(match env.nI c.args.toList with|none=>none|some ps=>some (f,ps++aF))
  |_=>none)
 |_=>none
variable {c:Call}{f:FuncId}
theorem x7{env:ai}{as:List U}(h:sv env c=some (f,as)):∃gH args k aF ps,c=⟨.value gH,args,k⟩∧env.ev gH=.fn f aF∧env.nI args.toList=some ps∧as=ps++aF:=by
 obtain⟨cl,args,k⟩:=c;simp only[sv]at h;split at h
 ·rename_i gH;split at h
  ·rename_i mb aF be;split at h
   ·cases h
   ·rename_i ps aB;cases h
    exact⟨gH,args,k,aF,ps,rfl,ai.b5 be,aB,rfl⟩
  ·cases h
 ·cases h
def Io(env:ai)(c:Call):Option (FuncId×List U×List U):=match c.callee with
 |.value gH=>(match env.cz gH with
  |some (.gp f aF)=>(match env.nI c.args.toList with|none=>none|some ps=>some (f,ps,aF))
  |_=>none)
 |_=>none
theorem Xu{env:ai}{as nr:List U}(h:Io env c=some (f,as,nr)):∃gH args k,c=⟨.value gH,args,k⟩∧env.ev gH=.gp f nr∧env.nI args.toList=some as:=by
 obtain⟨cl,args,k⟩:=c;simp only[Io]at h;split at h
 ·rename_i gH;split at h
  ·rename_i mb aF be;split at h
   ·cases h
   ·rename_i ps aB;cases h
    exact⟨gH,args,k,rfl,ai.b5 be,aB⟩
  ·cases h
 ·cases h
def IY:U→Option U
 |.fn f l=>bif kL l then some (.gp f l)else none
 |a=>some a
theorem Y2{σ:Y}{a b c:U}(h:hP σ a b)(V:IY b=some c):hP σ a c:=by
 cases b<;>simp only[IY,Option.some.injEq]at V<;>first|(subst V;exact h)|skip
 rename_i f l;cases aa:kL l with
 |false=>rw[aa]at V;cases V
 |true=>rw[aa]at V;cases V;exact .gp h aa
def yz(σ:Y):Nat→List U→Option (List U)
 |_,[]=>some []
 |m,x::r=>match(bif Nat.beq (m%2) 1 then some x else match iJ [] σ x with|none=>none|some a=>IY a)with
  |none=>none
  |some a=>match yz σ (m / 2) r with
   |none=>none
   |some l=>some (a::l)
theorem Gt{σ:Y}:∀{m:Nat} {a b:List U},yz σ m a=some b→jD σ a b
 |m,[],b,h=>by simp only[yz,Option.some.injEq]at h;subst h;exact .nil
 |m,x::r,b,h=>by
  simp only[yz]at h;split at h
  ·cases h
  ·rename_i a aC;split at h
   ·cases h
   ·rename_i l aJ;simp only[Option.some.injEq]at h;subst h
    refine .cons ?_ (Gt aJ);cases V:Nat.beq (m%2) 1 with
    |true=>rw[V]at aC;cases aC;exact .refl _
    |false=>
     rw[V]at aC;simp only[cond_false]at aC;split at aC
     ·cases aC
     ·rename_i a0 RX;exact Y2 (qZ RX) aC
theorem jD.append{σ:Y}:∀{a b c d:List U},jD σ a b→jD σ c d→jD σ (a++c) (b++d)
 |_,_,_,_,.nil,h=>h
 |_,_,_,_,.cons h t,D=>.cons h (jD.append t D)
def rC(env:ai)(d:Int):Option Operand→Option Int
 |none=>some d
 |some x=>match env.cz x with|some (.int _ n)=>some n|_=>none
variable {x:Option Operand}
theorem Mq{env:ai}{n:Int}(h:rC env 0 x=some n):tj env.ev x∧k6 env.ev x=n:=by
 cases x with
 |none=>simp only[rC,Option.some.injEq]at h;exact⟨trivial,h⟩
 |some x=>
  simp only[rC]at h;split at h
  ·rename_i k m hm;cases h;exact⟨⟨k,_,ai.b5 hm⟩,by simp only[k6,ai.b5 hm]⟩
  ·cases h
theorem Mr{env:ai}{l:Nat}{n:Int}(h:rC env (l:Int) x=some n):tj env.ev x∧pG env.ev l x=n:=by
 cases x with
 |none=>simp only[rC,Option.some.injEq]at h;exact⟨trivial,h⟩
 |some x=>
  simp only[rC]at h;split at h
  ·rename_i k m hm;cases h;exact⟨⟨k,_,ai.b5 hm⟩,by simp only[pG,ai.b5 hm]⟩
  ·cases h
def Lo(env:ai)(σ:Y)(bH:gC):Op→Option cA
 |.store T x y=>match bH.get T with
  |none=>none
  |some i=>match env.cz x with
   |some (.ptr d p)=>(match env.cz y with
    |none=>none
    |some a=>match σ.get d with
     |some (.cells aW cs)=>(match q2 a with
      |none=>none
      |some ca=>bif a.flat&&Nat.beq ca.length i.sz&&Nat.ble (p+i.sz) cs.length then(match spine (iw cs p ca)with
       |none=>none
       |some mR=>some (.e [d] [] .undef (σ.set d (.cells aW mR))))else none)
     |_=>none)
   |_=>none
 |_=>none
def vj(bH:gC)(ids:List Nat)(env:ai)(d:Nat):Op→Option cA
 |.alloc T=>match bH.get T with
  |some ⟨_,_,some zs,_⟩=>(match spine (qe zs)with|none=>none|some cs=>bif !ids.contains d then some (.v d (.cells T cs) (.ptr d 0))else none)
  |_=>none
 |.box T x=>match env.cz x with
  |none=>none
  |some a=>match q2 a with
   |none=>none
   |some cs=>bif a.flat&&!a.refs (Nat.beq d)&&!ids.contains d then some (.v d (.cells T cs) (.ptr d 0))else none
 |.buildSlice T len parts=>match bH.get T with
  |some ⟨_,_,_,.slice E sz _ _⟩=>bif Nat.beq parts.size len&&(Nat.ble (len*sz) 65536&&Nat.ble len 65536)&&!ids.contains d then(match env.rA parts.toList with
   |none=>none
   |some ps=>match ur sz 0 (Bl ps)with
    |none=>none
    |some xs=>bif kL xs.flatten then some (.v d (.slice E sz xs 0 false) (.own d))else none)else none
  |_=>none
 |.makeMap T none=>match bH.get T with
  |some ⟨_,_,_,.map K E _⟩=>bif !ids.contains d then some (.v d (.map K E []) (.dm d))else none
  |_=>none
 |_=>none
def Fa(bH:gC)(env:ai)(σ:Y)(sz:Nat)(row:List U):Op→Option (cA×cf)
 |.indexAddr T x y=>match bH.get T with
  |some ⟨_,_,_,.slice _ h2 _ _⟩=>(match env.cz y with
   |some (.int _ i)=>(match env.cz x with
    |some (.aX _ xs)=>(match spine row with
     |none=>none
     |some r=>bif Nat.beq h2 sz then some (.y [] (.fP r),([.aX false xs,.int .i64 i],[]))else none)
    |some (.own d)=>(match σ.get d with
     |some (.slice _ oP xs _ _)=>bif Nat.beq h2 sz&&Nat.beq oP sz then some (.y [d] (.ptr d (i.toNat*sz)),([.aX false xs,.int .i64 i],[]))else none
     |some (.win _ _ xs)=>(match spine row with
      |none=>none
      |some r=>bif Nat.beq h2 sz then some (.y [d] (.fP r),([.aX false xs,.int .i64 i],[]))else none)
     |_=>none)
    |_=>none)
   |_=>none)
  |_=>none
 |_=>none
def Fy(bH:gC)(env:ai)(σ:Y)(d sz off:Nat)(row:List U):Op→Option (cA×cf)
 |.load T x=>match bH.get T with
  |none=>none
  |some i=>match env.cz x with
   |some (.ptr eD p)=>(match σ.get d with
    |some (.slice _ h2 xs _ _)=>bif Nat.beq eD d&&Nat.beq h2 sz&&(i.dr||Nat.blt 0 i.sz)&&Nat.ble (off+i.sz) sz then(match nK i.dr i.sz (row.drop off)with
     |none=>none
     |some a=>some (.y [d] a,([.aX false xs,.ptr eD p],[])))else none
    |_=>none)
   |_=>none
 |_=>none
def Gy(bH:gC)(env:ai)(σ:Y)(d sz off k:Nat)(zs:List (List U)):Op→Option (cA×cf)
 |.store T x y=>match bH.get T with
  |none=>none
  |some i=>match env.cz x with
   |some (.ptr eD p)=>(match env.cz y with
    |none=>none
    |some a=>match q2 (si a)with
     |none=>none
     |some ca=>match σ.get d with
      |some (.slice aW h2 xs eM _)=>bif Nat.beq eD d&&Nat.beq h2 sz&&Nat.beq eM k&&(si a).flat&&kL ca&&Nat.beq ca.length i.sz&&Nat.ble (off+i.sz) sz then
        some (.e [d] [] .undef (σ.set d (.slice aW h2 zs eM false)),([.aX false xs,.ptr eD p,.agg ca],[]))else none
      |_=>none)
   |_=>none
 |_=>none
mutual
def U.owns:U→List Nat
 |.own d=>[d]
 |.agg cs=>yA cs
 |.cD cs=>yA cs
 |.fn _ cs=>yA cs
 |_=>[]
def yA:List U→List Nat
 |[]=>[]
 |x::r=>x.owns++yA r
end
def Gg(env:ai)(σ:Y)(r:U):Op→Option (cA×cf)
 |.call c=>match Io env c with
  |none=>none
  |some (f,as,nr)=>match σ.at (yA as)with
   |none=>none
   |some l3=>match yz l3 0 as with
    |none=>none
    |some cO=>bif r.closed then some (.y l3.ids r,(.fn f nr::cO,[]))else none
 |_=>none
def Gk(env:ai)(uT:Nat)(σ σs:Y)(r:U):Op→Option (cA×cf)
 |.call c=>match sv env c with
  |none=>none
  |some (f,as)=>match σ.at (σs.ids++yA as)with
   |none=>none
   |some l3=>match yz l3 uT as with
    |none=>none
    |some cO=>match l3.at σs.ids with
     |none=>none
     |some MU=>bif r.closed&&σs.clean (λd=>!(σs.ids++[]).contains d)then some (.y l3.ids r,(.fn f []::cO,MU))else none
 |_=>none
def Fs(env:ai)(σ:Y)(ds:List Nat)(r:U):Op→Option (cA×cf)
 |.call c=>match sv env c with
  |none=>none
  |some (f,as)=>match σ.at ds with
   |none=>none
   |some σs=>match qg (yy 9 σs) as with
    |none=>none
    |some cO=>bif r.jO then some (.y σs.ids r,(.fn f []::cO,[]))else none
 |_=>none
def Ew(ids:List Nat)(env:ai)(σ dB:Y)(news:List Nat)(r:U)(σ2:Y):Op→Option (cA×cf)
 |.call c=>match sv env c with
  |none=>none
  |some (f,as)=>match q3 dB.ids σ as with
   |none=>none
   |some cO=>match σ.at dB.ids with
    |none=>none
    |some Qv=>bif news.all (λd=>!ids.contains d&&(σ.get d).isNone)&&(σ.minus dB.ids).clean news.contains&&!r.refs (λd=>!(dB.ids++news).contains d)&&σ2.clean (λd=>!(dB.ids++news).contains d)then
      some (.e (dB.ids++news) news r (σ2++σ.minus dB.ids),(.fn f []::cO,Qv))else none
 |_=>none
def Ey(ids:List Nat)(env:ai)(σ:Y)(ds news:List Nat)(r:U)(σ2:Y):Op→Option (cA×cf)
 |.call c=>match sv env c with
  |none=>none
  |some (f,as)=>match σ.at ds with
   |none=>none
   |some σs=>match qg (yy 9 σs) as with
    |none=>none
    |some cO=>bif news.all (λd=>!ids.contains d&&(σ.get d).isNone)&&σ.clean news.contains&&r.oO&&!r.refs (λd=>!news.contains d)&&σ2.clean (λd=>!news.contains d)then some (.e news news r (σ2++σ),(.fn f []::cO,[]))else none
 |_=>none
def Ek(bH:gC)(ids:List Nat)(env:ai)(σ:Y)(d2 sz bytes:Nat)(zs:List (List U)):Op→Option (cA×cf)
 |.call c=>match c.callee with
  |.builtin b=>(match b with
   |.append=>(match c.args.toList with
    |[s,x]=>(match c.argTypes.toList with
     |[T,ko]=>(match bH.get T with
      |some ⟨_,_,_,.slice E h2 RA _⟩=>bif Nat.beq T ko&&Nat.beq h2 sz&&Nat.beq RA bytes&&!ids.contains d2 then(match env.cz x with
       |none=>none
       |some mB=>match iJ [] σ mB with
        |some (.aX f bu)=>(match env.cz s with
         |some (.own d)=>(match σ.get d with
          |some (.slice aW oP xs k _)=>bif Nat.beq aW E&&Nat.beq oP sz&&(σ.minus [d]).clean [d2].contains then some (.e [d,d2] [d2] (.own d2) ((d2,.slice aW oP zs k false)::σ.minus [d]),([.aX false xs,.aX false bu],[]))else none
          |some (.win aW oP xs)=>bif Nat.beq aW E&&Nat.beq oP sz&&(σ.minus [d]).clean [d2].contains then some (.e [d,d2] [d2] (.own d2) ((d2,.win aW oP zs)::σ.minus [d]),([.aX false xs,.aX false bu],[]))else none
          |_=>none)
         |some .cV=>bif σ.clean [d2].contains then some (.e [d2] [d2] (.own d2) ((d2,.slice E h2 zs 0 false)::σ),([.aX false [],.aX false bu],[]))else none
         |some (.aX true xs)=>bif σ.clean [d2].contains&&Nat.blt 0 bu.length then some (.e [d2] [d2] (.own d2) ((d2,.slice E h2 zs 0 false)::σ),([.aX false xs,.aX false bu],[]))else none
         |_=>none)
        |_=>none)else none
      |_=>none)
     |_=>none)
    |_=>none)
   |_=>none)
  |_=>none
 |_=>none
def Az:U→List Nat
 |.own d=>[d]
 |_=>[]
def Di(bH:gC)(env:ai)(σ:Y)(sz:Nat)(zs:List (List U)):Op→Option (cA×cf)
 |.slice T x lo hi none=>match bH.get T with
  |some ⟨_,_,_,.slice _ h2 _ _⟩=>(match env.cz x with
   |none=>none
   |some mB=>match iJ [] σ mB with
    |some (.aX f xs)=>(match rC env 0 lo with
     |none=>none
     |some a=>match rC env (xs.length:Int) hi with
      |none=>none
      |some b=>bif Nat.beq h2 sz then some (.y (Az mB) (.aX false zs),([.aX false xs,.int .i64 a,.int .i64 b],[]))else none)
    |_=>none)
  |_=>none
 |_=>none
def Am(bH:gC)(env:ai)(σ:Y)(sz:Nat)(zs:List (List U)):Op→Option (cA×cf)
 |.slice T x lo (some hi) (some nM)=>match bH.get T with
  |some ⟨_,_,_,.slice _ h2 _ _⟩=>(match env.cz x with
   |none=>none
   |some mB=>match iJ [] σ mB with
    |some (.aX f xs)=>(match rC env 0 lo with
     |none=>none
     |some a=>match rC env (xs.length:Int) (some hi)with
      |none=>none
      |some b=>match rC env (xs.length:Int) (some nM)with
       |none=>none
       |some eL=>bif Nat.beq h2 sz then some (.y (Az mB) (.aX true zs),([.aX false xs,.int .i64 a,.int .i64 b,.int .i64 eL],[]))else none)
    |_=>none)
  |_=>none
 |_=>none
def AI(bH:gC)(ids:List Nat)(env:ai)(σ:Y)(d2 sz:Nat)(zs:List (List U)):Op→Option (cA×cf)
 |.slice T x lo none none=>match bH.get T with
  |some ⟨_,_,_,.slice _ h2 _ _⟩=>(match env.cz x with
   |some (.own d)=>(match σ.get d with
    |some (.win aW oP xs)=>(match rC env 0 lo with
     |none=>none
     |some a=>bif Nat.beq h2 sz&&Nat.beq oP sz&&!ids.contains d2&&(σ.minus [d]).clean [d2].contains then some (.e [d,d2] [d2] (.own d2) ((d2,.win aW oP zs)::σ.minus [d]),([.aX false xs,.int .i64 a],[]))else none)
    |_=>none)
   |_=>none)
  |_=>none
 |_=>none
def Gf(env:ai):Op→Option (cA×cf)
 |.binOp op _ x y _=>match env.cz x with
  |some (.int k m)=>(match env.cz y with
   |some (.int eM n)=>bif decide (k=eM)then(match op with
    |.quo=>some (.y [] (.int k (k.wrap (m.tdiv n))),([.int .i64 n],[]))
    |.rem=>some (.y [] (.int k (m.tmod n)),([.int .i64 n],[]))
    |_=>none)else none
   |_=>none)
  |_=>none
 |_=>none
def Gv(env:ai):Op→Option (cA×cf)
 |.binOp op _ x y _=>match env.cz x with
  |some (.int k m)=>(match env.cz y with
   |some (.int _ n)=>(match op with
    |.shl=>some (.y [] (.int k (k.wrap (m*2 ^ min n.toNat k.bits))),([.int .i64 n],[]))
    |.shr=>some (.y [] (.int k (m.fdiv (2 ^ min n.toNat k.bits))),([.int .i64 n],[]))
    |_=>none)
   |_=>none)
  |_=>none
 |_=>none
def Ec(bH:gC)(env:ai)(b:UInt8):Op→Option (cA×cf)
 |.index T x y=>match bH.get T with
  |some ⟨_,_,_,.str⟩=>(match env.cz x with
   |some (.str s)=>(match env.cz y with
    |some (.int _ n)=>some (.y [] (.int .u8 (b.toNat:Int)),([.str s,.int .i64 n],[]))
    |_=>none)
   |_=>none)
  |_=>none
 |_=>none
def Fw(bH:gC)(env:ai)(σ:Y)(E:Nat)(k:IntKind)(a:U)(b:Bool):Op→Option (cA×cf)
 |.lookup T x y ok=>match bH.get T with
  |some ⟨_,_,_,.map K kF eM⟩=>(match env.cz x with
   |some (.dm d)=>(match env.cz y with
    |some (.int dN n)=>(match σ.get d with
     |some (.map jS sN bx)=>bif Nat.beq kF E&&decide (eM=k)&&decide (dN=k)&&Nat.beq jS K&&Nat.beq sN kF then some (.y [d] (bif ok then .cD [a,.bool b]else a),([.int .i64 n],[(0,.map 0 0 bx)]))else none
     |_=>none)
    |_=>none)
   |_=>none)
  |_=>none
 |_=>none
def FI(bH:gC)(env:ai)(σ:Y)(k:IntKind)(k0:List (U×U))(T:Nat)(x y z:Operand):Option (cA×cf):=match bH.get T with
  |some ⟨_,_,_,.map K kF eM⟩=>(match env.cz x with
   |some (.dm d)=>(match env.cz y with
    |some (.int dN n)=>(match env.cz z with
     |some v=>(match σ.get d with
      |some (.map jS sN bx)=>bif decide (eM=k)&&decide (dN=k)&&Nat.beq jS K&&Nat.beq sN kF then some (.e [d] [] .undef (σ.set d (.map jS sN k0)),([.int .i64 n,v],[(0,.map 0 0 bx)]))else none
      |_=>none)
     |_=>none)
    |_=>none)
   |_=>none)
  |_=>none
def KJ(bH:gC)(env:ai)(σ:Y)(k:IntKind)(k0:List (U×U)):Op→Option (cA×cf)
 |.mapUpdate T x y z=>FI bH env σ k k0 T x y z
 |.insert T x y z=>FI bH env σ k k0 T x y z
 |_=>none
def Fx(bH:gC)(env:ai)(σ:Y)(k:IntKind)(n:Int):Op→Option (cA×cf)
 |.call c=>match c.callee with
  |.builtin b=>(match b with
   |.len=>(match c.args.toList with
    |[x]=>(match c.argTypes.toList with
     |[T]=>(match bH.get T with
      |some ⟨_,_,_,.map K kF eM⟩=>(match env.cz x with
       |some (.dm d)=>(match σ.get d with
        |some (.map jS sN bx)=>bif decide (eM=k)&&Nat.beq jS K&&Nat.beq sN kF then some (.y [d] (.int .i64 n),([],[(0,.map 0 0 bx)]))else none
        |_=>none)
       |_=>none)
      |_=>none)
     |_=>none)
    |_=>none)
   |_=>none)
  |_=>none
 |_=>none
def GB(env:ai)(neg:Bool)(T:Nat)(r:Bool):Op→Option (cA×cf)
 |.binOp op aW x y _=>match env.cz x with
  |none=>none
  |some a=>match env.cz y with
   |none=>none
   |some b=>bif a.plain&&b.plain&&Nat.beq aW T then(match op with
    |.eql=>bif neg then none else some (.y [] (.bool r),([a,b],[]))
    |.neq=>bif neg then some (.y [] (.bool r),([a,b],[]))else none
    |_=>none)else none
 |_=>none
def Gx(bH:gC)(env:ai)(neg:Bool):Op→Option (cA×cf)
 |.binOp op T x y _=>match env.cz x with
  |none=>none
  |some a=>match env.cz y with
   |some .cV=>(match bH.get T with
    |some ⟨_,_,_,.slice _ _ _ _⟩=>(match op with
     |.eql=>bif neg then none else some (.y [] (.bool false),([a],[]))
     |.neq=>bif neg then some (.y [] (.bool true),([a],[]))else none
     |_=>none)
    |_=>none)
   |_=>none
 |_=>none
def F5(env:ai)(T aW:Nat)(r:U):Op→Option (cA×cf)
 |.convert S M7 x=>match env.cz x with
  |none=>none
  |some a=>bif Nat.beq S T&&Nat.beq M7 aW then some (.y [] r,([a],[]))else none
 |_=>none
def F3(env:ai)(op:BinOp)(T:Nat)(r:U):Op→Option (cA×cf)
 |.binOp KS S x y _=>match env.cz x with
  |none=>none
  |some a=>match env.cz y with
   |none=>none
   |some b=>bif decide (KS=op)&&Nat.beq S T then some (.y [] r,([a,b],[]))else none
 |_=>none
def yB{P:Program}(bH:gC)(ids:List Nat)(o:Oper)(env:ai)(σ:Y):Hint P→Option (cA×cf)
 |.Bv=>match Jb bH env σ o.op with
  |some (R,bE)=>some (.y R bE,([],[]))
  |none=>match Lo env σ bH o.op with
   |some s=>some (s,([],[]))
   |none=>none
 |.al d=>match vj bH ids env d o.op with|some s=>some (s,([],[]))|none=>none
 |.to h _ b _=>match yB bH ids o env σ h with
  |some (.y R bE,aI)=>some (.y R b,(bE::aI.1,aI.2))
  |_=>none
 |.ix sz _ _ row _=>Fa bH env σ sz row o.op
 |.lo d sz _ _ off row _=>Fy bH env σ d sz off row o.op
 |.so d sz _ _ off _ zs _ k _=>Gy bH env σ d sz off k zs o.op
 |.rf _ _ _ r _ _=>Gg env σ r o.op
 |.ro uT _ σs _ r _ _=>Gk env uT σ σs r o.op
 |.le ds _ _ r _ _=>Fs env σ ds r o.op
 |.lq news _ dB _ r σ2 _ _=>Ew ids env σ dB news r σ2 o.op
 |.dl ds news _ _ r σ2 _ _ _=>Ey ids env σ ds news r σ2 o.op
 |.gs _ _ f _=>f ids o.op env σ
 |.ap d2 sz bytes _ _ zs _=>Ek bH ids env σ d2 sz bytes zs o.op
 |.sl sz _ _ _ zs _=>Di bH env σ sz zs o.op
 |.ws d2 sz _ _ zs _=>AI bH ids env σ d2 sz zs o.op
 |.qr _ _=>Gf env o.op
 |.sh _ _=>Gv env o.op
 |.is _ _ b _=>Ec bH env b o.op
 |.lk E k _ _ a b _=>Fw bH env σ E k a b o.op
 |.sr k _ _ _ k0 _=>KJ bH env σ k k0 o.op
 |.lm k _ n _=>Fx bH env σ k n o.op
 |.Ln neg T _ _ r _=>GB env neg T r o.op
 |.Lm neg _ _=>Gx bH env neg o.op
 |.s3 sz _ _ _ zs _=>Am bH env σ sz zs o.op
 |.pu T aW _ r _=>F5 env T aW r o.op
 |.pb op T _ _ r _=>F3 env op T r o.op
theorem g8.mono{G:cq}{o:Oper}{ev:Operand→U}{σ:Y}{M news:List Nat}{Φ DL:U→Y→Prop}(h:g8 G o ev σ M news Φ)(aB:∀a s,Φ a s→DL a s):g8 G o ev σ M news DL:=by
 intro cx I β w aP aq hop;have:=h cx I β w aP aq hop;generalize (execOp aP o).run G.P w=r at this;cases r with
 |halt x w'=>exact this
 |ok n w'=>
  cases n<;>simp only[kM]at this ⊢
  ·obtain⟨a,s,aS,β',q,uQ⟩:=this;exact⟨a,s,aS,β',aB _ _ q,uQ⟩
  ·obtain⟨a,s,aS,β',q,uQ⟩:=this;exact⟨a,s,aS,β',aB _ _ q,uQ⟩
  ·exact Calls.mono this λ_ _ ⟨v,he,a,s,aS,β',q,uQ⟩=>⟨v,he,a,s,aS,β',aB _ _ q,uQ⟩
section
variable {P:Program}{N:Nat}{ids:List Nat}{bH:gC}{o:Oper}{env:ai}{σ:Y}
theorem aa4(a1:ji P bH){s:cA}(h:Lo env σ bH o.op=some s):e1 ⟨P,N,ids⟩ o env σ s:=by
 cases aj:o.op<;>rw[aj]at h<;>simp only[Lo]at h
 case store T x y=>
  split at h
  ·cases h
  ·rename_i i aH;have hk:=(jf.get a1.tys aH).ty;split at h
   ·rename_i d p u;split at h
    ·cases h
    ·rename_i a ah;split at h
     ·rename_i aW cs Z;split at h
      ·cases h
      ·rename_i ca vC;generalize V:(a.flat&&_&&_)=dY at h;cases dY with
       |false=>cases h
       |true=>
        simp only[cond_true]at h;simp only[Bool.and_eq_true]at V;split at h
        ·cases h
        ·rename_i mR W;cases h
         exact⟨bW.HL aj (ai.b5 u) hk ah Z V.1.1 vC V.1.2 V.2 W,rfl⟩
     ·cases h
   ·cases h
 all_goals cases h
theorem aa5(a1:ji P bH){d:Nat}{s:cA}(h:vj bH ids env d o.op=some s):e1 ⟨P,N,ids⟩ o env σ s:=by
 cases aj:o.op<;>rw[aj]at h
 case alloc T=>
  simp only[vj]at h;split at h
  ·rename_i sz dr zs kd aH;have hz:=(jf.get a1.tys aH).alx _ rfl;split at h
   ·cases h
   ·rename_i cs W;cases hi:ids.contains d with
    |true=>rw[hi]at h;cases h
    |false=>rw[hi]at h;cases h;exact⟨hi,bW.alloc aj hz (tb W) hi⟩
  ·cases h
 case box T x=>
  simp only[vj]at h;split at h
  ·cases h
  ·rename_i a u;split at h
   ·cases h
   ·rename_i cs W;generalize V:(a.flat&&_&&_)=dY at h;cases dY with
    |false=>cases h
    |true=>
     cases h;simp only[Bool.and_eq_true,Bool.not_eq_true']at V;exact⟨V.2,bW.box aj u V.1.1 W V.1.2 V.2⟩
 case buildSlice T len parts=>
  simp only[vj]at h;split at h
  ·rename_i aH;have hk:=(jf.get a1.tys aH).kd;simp only[l0]at hk;generalize V:(Nat.beq parts.size len&&_&&_)=dY at h;cases dY with
   |false=>cases h
   |true=>
    simp only[cond_true]at h;simp only[Bool.and_eq_true,Bool.not_eq_true']at V;split at h
    ·cases h
    ·rename_i ps aB;split at h
     ·cases h
     ·rename_i xs be;cases aa:kL xs.flatten with
      |false=>rw[aa]at h;cases h
      |true=>
       rw[aa]at h;cases h
       exact⟨V.2,(bG.Vx aj hk.2.2 (by simpa using V.1.1) (by simpa using V.1.2) (by rw[←L8,ai.z7 aB];exact CJ _ be) aa V.2).off⟩
  ·cases h
 case makeMap T r=>
  cases r with
  |some r=>simp only[vj]at h;cases h
  |none=>
   simp only[vj]at h;split at h
   ·rename_i aH;cases hi:ids.contains d with
    |true=>rw[hi]at h;cases h
    |false=>rw[hi]at h;cases h;exact⟨hi,bG.makeMap aj hi⟩
   ·cases h
 all_goals (simp only[vj]at h;cases h)
theorem bG.Oy{G:cq}{T E sz:Nat}{x y:Operand}{k:IntKind}{i:Int}{f:Bool}{ev:Operand→U}(xs:List (List U))(h:o.op=.indexAddr T x y)(u:ev x=.aX f xs)(ah:ev y=.int k i)(aH:jh G.P T E sz)
  (aJ:∀e∈xs,e.length=sz) (hi:0≤i∧i<xs.length):Yields G o ev σ [] [] (.fP (el xs i)):=
 .pure λaz cx I β w aP b2 aq hop=>by
  have h1:=hop x (by simp[h,Op.operands]);rw[u]at h1
  have D:=hop y (by simp[h,Op.operands]);rw[ah]at D;have D:=iH D
  simp only[ar,aO]at h1;obtain⟨a,c,h1,ak,bc,_,bX⟩:=h1;have bQ:i.toNat<xs.length:=by omega
  rcases bX with bX|⟨b,p,rfl,bX⟩
  ·subst bX;simp at bQ
  ·have h0:=Lh (sz:=sz) _ p i.toNat aJ bX bQ;have lZ:xs.getD i.toNat []=el xs i:=by
    simp[List.getD_eq_getElem?_getD,bQ,el]
   rw[lZ]at h0;refine⟨.pointer (some ⟨b,p+i.toNat*sz,none⟩),?_,by simp only[ar,aO];exact⟨b,_,rfl,h0⟩⟩;have aA:∀w,(underlying T).run G.P w=.ok (.slice E) w:=λw=>by simp[underlying,program,Sem.run,aH.gv]
   simp[execOp,h,h1,D,Instr.indexAt,asIntOf,aA,hi,aH.size,kJ]
theorem aa6(a1:ji P bH){sz:Nat}{xs:List (List U)}{i:Int}{row:List U}(bP:u9 sz xs i row){s:cA}{aI:cf}(h:Fa bH env σ sz row o.op=some (s,aI))(he:aI=([.aX false xs,.int .i64 i],[])):e1 ⟨P,N,ids⟩ o env σ s:=by
 obtain⟨bU,cG,dP,gT⟩:=bP;cases aj:o.op<;>rw[aj]at h
 case indexAddr T x y=>
  simp only[Fa]at h;split at h
  ·rename_i h2 _ _ aH;have hk:=(jf.get a1.tys aH).kd;simp only[l0]at hk;split at h
   ·rename_i k E5 ah;split at h
    ·rename_i f kE u;split at h
     ·cases h
     ·rename_i r ax;cases V:Nat.beq h2 sz with
      |false=>rw[V]at h;cases h
      |true=>
       rw[V]at h;cases h
       simp only[Prod.mk.injEq,List.cons.injEq,U.aX.injEq,U.int.injEq,and_true,true_and]at he;obtain⟨rfl,rfl⟩:=he;have:=Nat.eq_of_beq_eq_true V;subst this;simp only[e1];rw[←tb ax,←gT];exact bG.Oy _ aj (ai.b5 u) (ai.b5 ah) hk.1 bU ⟨cG,dP⟩
    ·rename_i d u;split at h
     ·rename_i amw oP apt an4 anq Z;cases V:(Nat.beq h2 sz&&Nat.beq oP sz)with
      |false=>rw[V]at h;cases h
      |true=>
       rw[V]at h;cases h
       rw[Bool.and_eq_true]at V;simp only[Prod.mk.injEq,List.cons.injEq,U.aX.injEq,U.int.injEq,and_true,true_and]at he;obtain⟨rfl,rfl⟩:=he;have:=Nat.eq_of_beq_eq_true V.1;subst this;have:=Nat.eq_of_beq_eq_true V.2;subst this;exact bG.ZV _ id aj (ai.b5 u) (ai.b5 ah) (by rw[ym];exact Z) hk.1 ⟨cG,dP⟩
     ·rename_i kE Z;split at h
      ·cases h
      ·rename_i r ax;cases V:Nat.beq h2 sz with
       |false=>rw[V]at h;cases h
       |true=>
        rw[V]at h;cases h
        simp only[Prod.mk.injEq,List.cons.injEq,U.aX.injEq,U.int.injEq,and_true,true_and]at he;obtain⟨rfl,rfl⟩:=he;have:=Nat.eq_of_beq_eq_true V;subst this;simp only[e1];rw[←tb ax,←gT];exact Yields.win Z (bG.Oy _ aj (Uk (ai.b5 u)) (Wr (ai.b5 ah)) hk.1 bU ⟨cG,dP⟩)
     ·cases h
    ·cases h
   ·cases h
  ·cases h
 all_goals (simp only[Fa]at h;cases h)
theorem aa7(a1:ji P bH){d sz off:Nat}{xs:List (List U)}{i:Int}{row:List U}(bP:u9 sz xs i row){s:cA}{aI:cf}(h:Fy bH env σ d sz off row o.op=some (s,aI))(he:aI=([.aX false xs,.ptr d (i.toNat*sz+off)],[])):e1 ⟨P,N,ids⟩ o env σ s:=by
 obtain⟨bU,cG,dP,gT⟩:=bP;cases aj:o.op<;>rw[aj]at h
 case load T x=>
  simp only[Fy]at h;split at h
  ·cases h
  ·rename_i wQ aH;have hk:=(jf.get a1.tys aH).ty;split at h
   ·rename_i eD p u;split at h
    ·rename_i aW h2 kE k cU Z;generalize V:(Nat.beq eD d&&_&&_&&_)=dY at h;cases dY with
     |false=>cases h
     |true=>
      simp only[cond_true]at h;simp only[Bool.and_eq_true]at V;obtain⟨⟨⟨dJ,eL⟩,gQ⟩,jd⟩:=V;split at h
      ·cases h
      ·rename_i a aC;cases h;simp only[Prod.mk.injEq,List.cons.injEq,U.aX.injEq,U.ptr.injEq,and_true,true_and]at he;obtain⟨rfl,rfl,rfl⟩:=he;have:=Nat.eq_of_beq_eq_true eL;subst this;exact bG.ab1 (i:=i) _ id aj (ai.b5 u) (by rw[ym];exact Z) rfl ⟨cG,dP⟩ hk gQ jd (by rw[id_eq,gT];exact aC)
    ·cases h
   ·cases h
 all_goals (simp only[Fy]at h;cases h)
theorem aa8(a1:ji P bH){d sz off k:Nat}{xs zs:List (List U)}{i:Int}{ca:List U}(bP:DS sz xs i off ca zs)(o9:(k:Int)≤i){s:cA}{aI:cf}(h:Gy bH env σ d sz off k zs o.op=some (s,aI))(he:aI=([.aX false xs,.ptr d (i.toNat*sz+off),.agg ca],[])):e1 ⟨P,N,ids⟩ o env σ s:=by
 obtain⟨⟨bU,cG,dP,_⟩,gT⟩:=bP;cases aj:o.op<;>rw[aj]at h
 case store T x y=>
  simp only[Gy]at h;split at h
  ·cases h
  ·rename_i wQ aH;have hk:=(jf.get a1.tys aH).ty;split at h
   ·rename_i eD p u;split at h
    ·cases h
    ·rename_i a ah;split at h
     ·cases h
     ·rename_i ae7 vC;split at h
      ·rename_i aW h2 kE eM cU Z;generalize V:(Nat.beq eD d&&_&&_&&_&&_&&_&&_)=dY at h;cases dY with
       |false=>cases h
       |true=>
        simp only[cond_true]at h;simp only[Bool.and_eq_true]at V;obtain⟨⟨⟨⟨⟨⟨dJ,eL⟩,gQ⟩,jd⟩,rM⟩,Jc⟩,ae2⟩:=V;cases h;simp only[Prod.mk.injEq,List.cons.injEq,U.aX.injEq,U.ptr.injEq,U.agg.injEq,and_true,true_and]at he;obtain⟨rfl,⟨rfl,rfl⟩,rfl⟩:=he;have:=Nat.eq_of_beq_eq_true eL;subst this;have:=Nat.eq_of_beq_eq_true gQ;subst this;have g1:=en.ZW (G:=⟨P,N,ids⟩) (i:=i) (ev:=λx=>si (env.ev x)) kE id (iw (el kE i) off ae7) aj (show si (env.ev x)=_ by rw[ai.b5 u];rfl) (show si (env.ev y)=_ by rw[ai.b5 ah]) (by rw[ym];exact Z) rfl ⟨cG,dP⟩ o9 hk jd vC rM Jc ae2 rfl;rw[ym,←gT]at g1;exact⟨g1.off,rfl⟩
      ·cases h
   ·cases h
 all_goals (simp only[Gy]at h;cases h)
theorem aa9{uT:Nat}{f:FuncId}{σs:Y}{cO:List U}{r:U}(bP:ef P f σs cO r)(aa:dk P f){s:cA}{aI:cf}(h:Gk env uT σ σs r o.op=some (s,aI))(he:aI=(.fn f []::cO,σs)):e1 ⟨P,N,ids⟩ o env σ s:=by
 cases aj:o.op<;>rw[aj]at h
 case call c=>
  simp only[Gk]at h;split at h
  ·cases h
  ·rename_i mb as aC;obtain⟨gH,args,k,aF,ps,rfl,be,aB,rfl⟩:=x7 aC;split at h
   ·cases h
   ·rename_i l3 mX;split at h
    ·cases h
    ·rename_i xb W;split at h
     ·cases h
     ·rename_i MU agq;generalize V:(r.closed&&_)=dY at h;cases dY with
      |false=>cases h
      |true=>
       rw[Bool.and_eq_true]at V;cases h;simp only[Prod.mk.injEq,List.cons.injEq,U.fn.injEq,and_true]at he;obtain⟨⟨rfl,rfl⟩,rfl⟩:=he;exact bW.call (G:=⟨P,N,ids⟩) (σs:=l3) (dB:=MU) aj be aa.h bP aB (Gt W) (Y.oa mX).1 (Y.oa agq).1 V.1 V.2
 all_goals (simp only[Gk]at h;cases h)
theorem aba{f:FuncId}{sU cO:List U}{r:U}(bP:ef P f [] (cO++sU) r)(aa:dk P f){s:cA}{aI:cf}(h:Gg env σ r o.op=some (s,aI))(he:aI=(.fn f sU::cO,[])):e1 ⟨P,N,ids⟩ o env σ s:=by
 cases aj:o.op<;>rw[aj]at h
 case call c=>
  simp only[Gg]at h;split at h
  ·cases h
  ·rename_i mb as nr aC;obtain⟨gH,args,k,rfl,be,aB⟩:=Xu aC;split at h
   ·cases h
   ·rename_i l3 mX;split at h
    ·cases h
    ·rename_i xb W;cases V:r.closed with
     |false=>rw[V]at h;cases h
     |true=>
      rw[V]at h;cases h;simp only[Prod.mk.injEq,List.cons.injEq,U.fn.injEq,and_true]at he;obtain⟨⟨rfl,rfl⟩,rfl⟩:=he;exact bG.ad5 (G:=⟨P,N,ids⟩) (σs:=l3) aj be aa.h (Y.oa mX).1.mem (by rw[ai.v7 aB];exact Gt W) bP V
 all_goals (simp only[Gg]at h;cases h)
theorem abb{ds:List Nat}{f:FuncId}{cO:List U}{r:U}(bP:ef P f [] cO r)(aa:dk P f){s:cA}{aI:cf}(h:Fs env σ ds r o.op=some (s,aI))(he:aI=(.fn f []::cO,[])):e1 ⟨P,N,ids⟩ o env σ s:=by
 cases aj:o.op<;>rw[aj]at h
 case call c=>
  simp only[Fs]at h;split at h
  ·cases h
  ·rename_i mb as aC;obtain⟨gH,args,k,aF,ps,rfl,be,aB,rfl⟩:=x7 aC;split at h
   ·cases h
   ·rename_i l3 mX;split at h
    ·cases h
    ·rename_i xb W;cases V:r.jO with
     |false=>rw[V]at h;cases h
     |true=>
      rw[V]at h;cases h;simp only[Prod.mk.injEq,List.cons.injEq,U.fn.injEq,and_true]at he;obtain⟨rfl,rfl⟩:=he;exact bG.aji (G:=⟨P,N,ids⟩) (σs:=l3) 9 aj be aa.h bP aB W (Y.oa mX).1 V
 all_goals (simp only[Fs]at h;cases h)
theorem abc{news:List Nat}{f:FuncId}{dB σ2:Y}{cO:List U}{r:U}(bP:gi P f dB cO (λa az=>a=r∧az=σ2))(aa:dk P f){s:cA}{aI:cf}(h:Ew ids env σ dB news r σ2 o.op=some (s,aI))(he:aI=(.fn f []::cO,dB)):e1 ⟨P,N,ids⟩ o env σ s:=by
 cases aj:o.op<;>rw[aj]at h
 case call c=>
  simp only[Ew]at h;split at h
  ·cases h
  ·rename_i mb as aC;obtain⟨gH,args,k,aF,ps,rfl,be,aB,rfl⟩:=x7 aC;split at h
   ·cases h
   ·rename_i xb W;split at h
    ·cases h
    ·rename_i Qv mX;generalize V:(news.all _&&_&&_&&_)=dY at h;cases dY with
     |false=>cases h
     |true=>
      simp only[Bool.and_eq_true,Bool.not_eq_true']at V;obtain⟨⟨⟨dJ,eL⟩,gQ⟩,jd⟩:=V;cases h;simp only[Prod.mk.injEq,List.cons.injEq,U.fn.injEq,and_true]at he;obtain⟨⟨rfl,rfl⟩,rfl⟩:=he;refine⟨?_,by rw[List.all_eq_true]at dJ ⊢;exact λd Z=>((Bool.and_eq_true _ _).mp (dJ d Z)).1⟩;have g1:=bW.Pf (G:=⟨P,N,ids⟩) (σ:=σ) news aj be aa.h bP aB (x4 W) (Y.oa mX).1 dJ eL (λr' al4 cb=>by obtain⟨rfl,rfl⟩:=cb;exact⟨gQ,jd⟩);exact g1.mono λa s ⟨al4,⟨h1,D⟩,ak⟩=>⟨h1,by rw[ak,D]⟩
 all_goals (simp only[Ew]at h;cases h)
theorem abd{ds news:List Nat}{f:FuncId}{σ2:Y}{cO:List U}{r:U}(bP:gi P f [] cO (λa az=>a=r∧az=σ2))(aa:dk P f)(vr:uI σ2){s:cA}{aI:cf}(h:Ey ids env σ ds news r σ2 o.op=some (s,aI))(he:aI=(.fn f []::cO,[])):e1 ⟨P,N,ids⟩ o env σ s:=by
 cases aj:o.op<;>rw[aj]at h
 case call c=>
  simp only[Ey]at h;split at h
  ·cases h
  ·rename_i mb as aC;obtain⟨gH,args,k,aF,ps,rfl,be,aB,rfl⟩:=x7 aC;split at h
   ·cases h
   ·rename_i l3 mX;split at h
    ·cases h
    ·rename_i xb W;generalize V:(news.all _&&_&&_&&_&&_)=dY at h;cases dY with
     |false=>cases h
     |true=>
      simp only[Bool.and_eq_true,Bool.not_eq_true']at V;obtain⟨⟨⟨⟨dJ,eL⟩,gQ⟩,jd⟩,rM⟩:=V;cases h;simp only[Prod.mk.injEq,List.cons.injEq,U.fn.injEq,and_true]at he;obtain⟨rfl,rfl⟩:=he;exact⟨en.Iy (G:=⟨P,N,ids⟩) (σs:=l3) 9 news aj be aa.h bP aB W (Y.oa mX).1 dJ eL gQ jd rM vr,by rw[List.all_eq_true]at dJ ⊢;exact λd Z=>((Bool.and_eq_true _ _).mp (dJ d Z)).1⟩
 all_goals (simp only[Ey]at h;cases h)
theorem aaz(a1:ji P bH){d2 sz bytes:Nat}{xs bu zs:List (List U)}(bP:yP sz bytes xs bu zs){s:cA}{aI:cf}(h:Ek bH ids env σ d2 sz bytes zs o.op=some (s,aI))(he:aI=([.aX false xs,.aX false bu],[])):e1 ⟨P,N,ids⟩ o env σ s:=by
 obtain⟨z1,bU,cG,dP,gT,kk⟩:=bP;cases aj:o.op<;>rw[aj]at h
 case call c=>
  obtain⟨cl,args,tys⟩:=c;simp only[Ek]at h;split at h
  ·split at h
   ·split at h
    ·rename_i h5 jv kQ;have:args=#[h5,jv]:=Array.toList_inj.1 (by simpa using kQ);subst this;split at h
     ·rename_i T ko xI;have:tys=#[T,ko]:=Array.toList_inj.1 (by simpa using xI);subst this;split at h
      ·rename_i E h2 RA apu aH;have hk:=(jf.get a1.tys aH).kd;simp only[l0]at hk;generalize V:(Nat.beq T ko&&_&&_&&_)=dY at h;cases dY with
       |false=>cases h
       |true=>
        simp only[cond_true]at h;simp only[Bool.and_eq_true,Bool.not_eq_true']at V;obtain⟨⟨⟨dJ,eL⟩,gQ⟩,jd⟩:=V;have:=Nat.eq_of_beq_eq_true dJ;subst this;have:=Nat.eq_of_beq_eq_true eL;subst this;have:=Nat.eq_of_beq_eq_true gQ;subst this;split at h
        ·cases h
        ·rename_i mB u;split at h
         ·rename_i f MK W;have s7:hP σ (env.ev jv) (.aX f MK):=by rw[ai.b5 u];exact qZ W
          split at h
          ·rename_i d lC;split at h
           ·rename_i aW oP kE k cU Z;generalize fG:(Nat.beq aW E&&_&&_)=dY at h;cases dY with
            |false=>cases h
            |true=>
             simp only[cond_true]at h;simp only[Bool.and_eq_true]at fG;obtain⟨⟨bk,bZ⟩,c1⟩:=fG;have:=Nat.eq_of_beq_eq_true bk;subst this;have:=Nat.eq_of_beq_eq_true bZ;subst this;cases h;simp only[Prod.mk.injEq,List.cons.injEq,U.aX.injEq,and_true,true_and]at he;obtain⟨rfl,rfl⟩:=he;refine⟨?_,by simpa using jd⟩;rw[←z1];exact en.append (G:=⟨P,N,ids⟩) aj (ai.b5 lC) Z s7 hk.2.1 rfl cG dP gT kk jd c1
           ·rename_i aW oP kE Z;generalize fG:(Nat.beq aW E&&_&&_)=dY at h;cases dY with
            |false=>cases h
            |true=>
             simp only[cond_true]at h;simp only[Bool.and_eq_true]at fG;obtain⟨⟨bk,bZ⟩,c1⟩:=fG;have:=Nat.eq_of_beq_eq_true bk;subst this;have:=Nat.eq_of_beq_eq_true bZ;subst this;cases h;simp only[Prod.mk.injEq,List.cons.injEq,U.aX.injEq,and_true,true_and]at he;obtain⟨rfl,rfl⟩:=he;refine⟨?_,by simpa using jd⟩;rw[←z1];exact en.Yk (G:=⟨P,N,ids⟩) aj (ai.b5 lC) Z s7 hk.2.1 rfl cG dP gT kk jd c1
           ·cases h
          ·rename_i lC;generalize fG:(Y.clean _ _)=dY at h;cases dY with
           |false=>cases h
           |true=>
            cases h;simp only[Prod.mk.injEq,List.cons.injEq,U.aX.injEq,and_true,true_and]at he;obtain⟨rfl,rfl⟩:=he;refine⟨?_,by simpa using jd⟩;rw[←z1];exact en.Mn (G:=⟨P,N,ids⟩) aj (.inl ⟨ai.b5 lC,rfl⟩) s7 hk.2.1 bU cG dP gT kk jd fG
          ·rename_i kE lC;generalize fG:(Y.clean _ _&&_)=dY at h;cases dY with
           |false=>cases h
           |true=>
            cases h;rw[Bool.and_eq_true]at fG;simp only[Prod.mk.injEq,List.cons.injEq,U.aX.injEq,and_true,true_and]at he;obtain⟨rfl,rfl⟩:=he;refine⟨?_,by simpa using jd⟩;rw[←z1];exact en.Mn (G:=⟨P,N,ids⟩) aj (.inr ⟨ai.b5 lC,(Iff.of_eq Nat.blt_eq).1 fG.2⟩) s7 hk.2.1 bU cG dP gT kk jd fG.1
          ·cases h
         ·cases h
      ·cases h
     ·cases h
    ·cases h
   ·cases h
  ·cases h
 all_goals (simp only[Ek]at h;cases h)
theorem aaA(a1:ji P bH){d2 sz:Nat}{xs zs:List (List U)}{a:Int}(bP:pO sz xs a xs.length zs){s:cA}{aI:cf}(h:AI bH ids env σ d2 sz zs o.op=some (s,aI))(he:aI=([.aX false xs,.int .i64 a],[])):e1 ⟨P,N,ids⟩ o env σ s:=by
 obtain⟨bU,cG,dP⟩:=bP;cases aj:o.op<;>rw[aj]at h
 case slice T x lo hi nM=>
  cases hi with
  |some m=>cases nM<;>simp only[AI]at h<;>cases h
  |none=>
  cases nM with
  |some m=>simp only[AI]at h;cases h
  |none=>
   simp only[AI]at h;split at h
   ·rename_i h2 _ _ aH;have hk:=(jf.get a1.tys aH).kd;simp only[l0]at hk;split at h
    ·rename_i d u;split at h
     ·rename_i aW oP kE Z;split at h
      ·cases h
      ·rename_i e8 aC;generalize V:(Nat.beq h2 sz&&_&&_&&_)=dY at h;cases dY with
       |false=>cases h
       |true=>
        simp only[cond_true]at h;simp only[Bool.and_eq_true,Bool.not_eq_true']at V;obtain⟨⟨⟨dJ,eL⟩,gQ⟩,jd⟩:=V;have:=Nat.eq_of_beq_eq_true dJ;subst this;have:=Nat.eq_of_beq_eq_true eL;subst this;cases h;simp only[Prod.mk.injEq,List.cons.injEq,U.aX.injEq,U.int.injEq,and_true,true_and]at he;obtain⟨rfl,rfl⟩:=he;obtain⟨an,au⟩:=Mq aC;refine⟨?_,by simpa using gQ⟩;have g1:=en.ZX (G:=⟨P,N,ids⟩) (d2:=d2) aj (ai.b5 u) Z hk.1 an (by rw[au];exact⟨cG.1,cG.2.1⟩) gQ jd;rw[au]at g1;rw[←dP];simpa using g1
     ·cases h
    ·cases h
   ·cases h
 all_goals (simp only[AI]at h;cases h)
theorem aaB(a1:ji P bH){sz:Nat}{xs zs:List (List U)}{a b:Int}(bP:pO sz xs a b zs){s:cA}{aI:cf}(h:Di bH env σ sz zs o.op=some (s,aI))(he:aI=([.aX false xs,.int .i64 a,.int .i64 b],[])):e1 ⟨P,N,ids⟩ o env σ s:=by
 obtain⟨bU,cG,dP⟩:=bP;cases aj:o.op<;>rw[aj]at h
 case slice T x lo hi nM=>
  cases nM with
  |some m=>simp only[Di]at h;cases h
  |none=>
   simp only[Di]at h;split at h
   ·rename_i h2 _ _ aH;have hk:=(jf.get a1.tys aH).kd;simp only[l0]at hk;split at h
    ·cases h
    ·rename_i mB u;split at h
     ·rename_i f kE W;split at h
      ·cases h
      ·rename_i e8 aC;split at h
       ·cases h
       ·rename_i aN hf;cases V:Nat.beq h2 sz with
        |false=>rw[V]at h;cases h
        |true=>
         rw[V]at h;cases h
         simp only[Prod.mk.injEq,List.cons.injEq,U.aX.injEq,U.int.injEq,and_true,true_and]at he;obtain⟨rfl,rfl,rfl⟩:=he;have:=Nat.eq_of_beq_eq_true V;subst this;obtain⟨an,au⟩:=Mq aC;obtain⟨aK,aG⟩:=Mr hf
         have ha:=bG.slice (G:=⟨P,N,ids⟩) (σ:=σ) aj (by rw[ai.b5 u];exact qZ W) hk.1 bU an aK (by rw[au,aG];exact cG) (Az mB) (λaz b2=>by
          rw[ai.b5 u];have:iJ [] az mB=some (.aX f kE):=by
           cases mB
           case own d=>simp only[iJ]at W ⊢;rw[b2 _ (by simp[Az])];exact W
           case aX b l=>cases b<;>exact W
           case dm d=>simp only[iJ]at W;split at W<;>first|cases W|(split at W<;>cases W)
           case agg l=>simp only[iJ]at W;split at W<;>cases W
           case cD l=>simp only[iJ]at W;split at W<;>cases W
           case fn f l=>simp only[iJ]at W;split at W<;>cases W
           all_goals exact W
          exact qZ this)
         rw[au,aG,dP]at ha;exact ha
     ·cases h
   ·cases h
 all_goals (simp only[Di]at h;cases h)
theorem aaC{n:Int}(bP:n≠0){s:cA}{aI:cf}(h:Gf env o.op=some (s,aI))(he:aI=([.int .i64 n],[])):e1 ⟨P,N,ids⟩ o env σ s:=by
 cases aj:o.op<;>rw[aj]at h
 case binOp op T x y aW=>
  simp only[Gf]at h;split at h
  ·rename_i k m u;split at h
   ·rename_i eM kC ah;cases xR:decide (k=eM)with
    |false=>rw[xR]at h;cases h
    |true=>
     rw[xR]at h;simp only[cond_true]at h;have:=of_decide_eq_true xR;subst this;split at h
     ·cases h;simp only[Prod.mk.injEq,List.cons.injEq,U.int.injEq,and_true,true_and]at he;subst he;exact bG.aiS aj (ai.b5 u) (ai.b5 ah) bP
     ·cases h;simp only[Prod.mk.injEq,List.cons.injEq,U.int.injEq,and_true,true_and]at he;subst he;exact bG.rem aj (ai.b5 u) (ai.b5 ah) bP
     ·cases h
   ·cases h
  ·cases h
 all_goals (simp only[Gf]at h;cases h)
theorem aaD{n:Int}(bP:0≤n){s:cA}{aI:cf}(h:Gv env o.op=some (s,aI))(he:aI=([.int .i64 n],[])):e1 ⟨P,N,ids⟩ o env σ s:=by
 cases aj:o.op<;>rw[aj]at h
 case binOp op T x y aW=>
  simp only[Gv]at h;split at h
  ·rename_i k m u;split at h
   ·rename_i eM kC ah;split at h
    ·cases h;simp only[Prod.mk.injEq,List.cons.injEq,U.int.injEq,and_true,true_and]at he;subst he;exact bG.shift (op:=.shl) (.inl rfl) aj (ai.b5 u) (ai.b5 ah) bP
    ·cases h;simp only[Prod.mk.injEq,List.cons.injEq,U.int.injEq,and_true,true_and]at he;subst he;exact bG.shift (op:=.shr) (.inr rfl) aj (ai.b5 u) (ai.b5 ah) bP
    ·cases h
   ·cases h
  ·cases h
 all_goals (simp only[Gv]at h;cases h)
theorem Y3(a1:ji P bH){h5:ByteArray}{n:Int}{b:UInt8}(bP:0≤n∧h5[n.toNat]?=some b){s:cA}{aI:cf}(h:Ec bH env b o.op=some (s,aI))(he:aI=([.str h5,.int .i64 n],[])):e1 ⟨P,N,ids⟩ o env σ s:=by
 cases aj:o.op<;>rw[aj]at h
 case index T x y=>
  simp only[Ec]at h;split at h
  ·rename_i aH;have hk:=(jf.get a1.tys aH).kd;simp only[l0]at hk;split at h
   ·rename_i dg u;split at h
    ·rename_i k kC ah;cases h;simp only[Prod.mk.injEq,List.cons.injEq,U.str.injEq,U.int.injEq,and_true,true_and]at he;obtain⟨rfl,rfl⟩:=he;exact bG.ZT aj (ai.b5 u) (ai.b5 ah) hk bP.1 bP.2
    ·cases h
   ·cases h
  ·cases h
 all_goals (simp only[Ec]at h;cases h)
theorem aaE(a1:ji P bH){E:Nat}{k:IntKind}{bx:List (U×U)}{n:Int}{a:U}{b:Bool}(bP:DP P E k bx n a b){s:cA}{aI:cf}(h:Fw bH env σ E k a b o.op=some (s,aI))(he:aI=([.int .i64 n],[(0,.map 0 0 bx)])):e1 ⟨P,N,ids⟩ o env σ s:=by
 obtain⟨α,l,enc,z,rfl,rfl,rfl,hz⟩:=bP;cases aj:o.op<;>rw[aj]at h
 case lookup T x y ok=>
  simp only[Fw]at h;split at h
  ·rename_i K kF eM aH;have hk:=(jf.get a1.tys aH).kd;simp only[l0]at hk;split at h
   ·rename_i d u;split at h
    ·rename_i dN kC ah;split at h
     ·rename_i jS sN k0 Z;generalize V:(Nat.beq kF E&&_&&_&&_&&_)=dY at h;cases dY with
      |false=>cases h
      |true=>
       simp only[Bool.and_eq_true]at V;obtain⟨⟨⟨⟨dJ,eL⟩,gQ⟩,jd⟩,rM⟩:=V;have:=Nat.eq_of_beq_eq_true dJ;subst this;have:=of_decide_eq_true eL;subst this;have:=of_decide_eq_true gQ;subst this;have:=Nat.eq_of_beq_eq_true jd;subst this;have:=Nat.eq_of_beq_eq_true rM;subst this;cases h;simp only[Prod.mk.injEq,List.cons.injEq,U.int.injEq,cn.map.injEq,and_true,true_and]at he;obtain⟨rfl,rfl⟩:=he;exact bG.lookup l enc z aj (ai.b5 u) (ai.b5 ah) Z hk hz
     ·cases h
    ·cases h
   ·cases h
  ·cases h
 all_goals (simp only[Fw]at h;cases h)
theorem Oz(a1:ji P bH){k:IntKind}{bx k0:List (U×U)}{n:Int}{v:U}(bP:A7 k bx n v k0){T:Nat}{x y z:Operand}(aj:o.op=.mapUpdate T x y z∨o.op=.insert T x y z){s:cA}{aI:cf}(h:FI bH env σ k k0 T x y z=some (s,aI))(he:aI=([.int .i64 n,v],[(0,.map 0 0 bx)])):e1 ⟨P,N,ids⟩ o env σ s:=by
 obtain⟨α,l,enc,q,rfl,rfl,aa,rfl⟩:=bP;simp only[FI]at h;split at h
 ·rename_i K kF eM aH;have hk:=(jf.get a1.tys aH).kd;simp only[l0]at hk;split at h
  ·rename_i d u;split at h
   ·rename_i dN kC ah;split at h
    ·rename_i dI hz;split at h
     ·rename_i jS sN k0 Z;generalize V:(decide (eM=k)&&_&&_&&_)=dY at h;cases dY with
      |false=>cases h
      |true=>
       simp only[Bool.and_eq_true]at V;obtain⟨⟨⟨eL,gQ⟩,jd⟩,rM⟩:=V;have:=of_decide_eq_true eL;subst this;have:=of_decide_eq_true gQ;subst this;have:=Nat.eq_of_beq_eq_true jd;subst this;have:=Nat.eq_of_beq_eq_true rM;subst this;cases h;simp only[Prod.mk.injEq,List.cons.injEq,U.int.injEq,cn.map.injEq,and_true,true_and]at he;obtain⟨⟨rfl,rfl⟩,rfl⟩:=he;exact⟨en.mapUpdate l enc q aj (ai.b5 u) (ai.b5 ah) (ai.b5 hz) aa Z hk,rfl⟩
     ·cases h
    ·cases h
   ·cases h
  ·cases h
 ·cases h
theorem aaF(a1:ji P bH){k:IntKind}{bx k0:List (U×U)}{n:Int}{v:U}(bP:A7 k bx n v k0){s:cA}{aI:cf}(h:KJ bH env σ k k0 o.op=some (s,aI))(he:aI=([.int .i64 n,v],[(0,.map 0 0 bx)])):e1 ⟨P,N,ids⟩ o env σ s:=by
 cases aj:o.op<;>rw[aj]at h
 case mapUpdate T x y z=>exact Oz a1 bP (.inl aj) h he
 case insert T x y z=>exact Oz a1 bP (.inr aj) h he
 all_goals (simp only[KJ]at h;cases h)
theorem aaG(a1:ji P bH){k:IntKind}{bx:List (U×U)}{n:Int}(bP:DQ k bx n){s:cA}{aI:cf}(h:Fx bH env σ k n o.op=some (s,aI))(he:aI=([],[(0,.map 0 0 bx)])):e1 ⟨P,N,ids⟩ o env σ s:=by
 obtain⟨α,l,enc,rfl,rfl⟩:=bP;cases aj:o.op<;>rw[aj]at h
 case call c=>
  obtain⟨cl,args,tys⟩:=c;simp only[Fx]at h;split at h
  ·split at h
   ·split at h
    ·rename_i x kQ;have:args=#[x]:=Array.toList_inj.1 (by simpa using kQ);subst this;split at h
     ·rename_i T xI;have:tys=#[T]:=Array.toList_inj.1 (by simpa using xI);subst this;split at h
      ·rename_i K kF eM aH;have hk:=(jf.get a1.tys aH).kd;simp only[l0]at hk;split at h
       ·rename_i d u;split at h
        ·rename_i jS sN k0 Z;generalize V:(decide (eM=k)&&_&&_)=dY at h;cases dY with
         |false=>cases h
         |true=>
          simp only[Bool.and_eq_true]at V;obtain⟨⟨eL,jd⟩,rM⟩:=V;have:=of_decide_eq_true eL;subst this;have:=Nat.eq_of_beq_eq_true jd;subst this;have:=Nat.eq_of_beq_eq_true rM;subst this;cases h;simp only[Prod.mk.injEq,List.cons.injEq,cn.map.injEq,and_true,true_and]at he;subst he;exact bG.ail l enc aj rfl (ai.b5 u) Z hk.gv
        ·cases h
       ·cases h
      ·cases h
     ·cases h
    ·cases h
   ·cases h
  ·cases h
 all_goals (simp only[Fx]at h;cases h)
theorem aaH{neg:Bool}{T:Nat}{a b:U}{r:Bool}(bP:∀(x y:Operand) w,(do eqGuard (bif neg then .neq else .eql) T x y (valOf a) (valOf b);binOp (bif neg then .neq else .eql) T (valOf a) (valOf b):Sem Value).run P w=.ok (.bool r) w)
  {s:cA} {aI:cf} (h:GB env neg T r o.op=some (s,aI)) (he:aI=([a,b],[])):e1 ⟨P,N,ids⟩ o env σ s:=by
 cases aj:o.op<;>rw[aj]at h
 case binOp op aW x y ko=>
  simp only[GB]at h;split at h
  ·cases h
  ·rename_i e8 u;split at h
   ·cases h
   ·rename_i aN ah;generalize V:(e8.plain&&_&&_)=dY at h;cases dY with
    |false=>cases h
    |true=>
     simp only[cond_true]at h;simp only[Bool.and_eq_true]at V;have:=Nat.eq_of_beq_eq_true V.2;subst this;split at h
     ·cases neg with
      |true=>cases h
      |false=>
       cases h;simp only[Prod.mk.injEq,List.cons.injEq,and_true]at he;obtain⟨rfl,rfl⟩:=he;exact bG.ajg aj (ai.b5 u) (ai.b5 ah) V.1.1 V.1.2 (bP x y)
     ·cases neg with
      |false=>cases h
      |true=>
       cases h;simp only[Prod.mk.injEq,List.cons.injEq,and_true]at he;obtain⟨rfl,rfl⟩:=he;exact bG.ajr aj (ai.b5 u) (ai.b5 ah) V.1.1 V.1.2 (bP x y)
     ·cases h
 all_goals (simp only[GB]at h;cases h)
theorem aaI{T aW:Nat}{a r:U}(bP:∀(o:Oper) (N:Nat) (ids:List Nat) (ev:Operand→U) (σ:Y) (x:Operand),o.op=.convert T aW x→ev x=a→Yields ⟨P,N,ids⟩ o ev σ [] [] r){s:cA}{aI:cf}(h:F5 env T aW r o.op=some (s,aI))(he:aI=([a],[])):e1 ⟨P,N,ids⟩ o env σ s:=by
 cases aj:o.op<;>rw[aj]at h
 case convert S M7 x=>
  simp only[F5]at h;split at h
  ·cases h
  ·rename_i e8 u;generalize V:(Nat.beq S T&&_)=dY at h;cases dY with
   |false=>cases h
   |true=>
    simp only[cond_true]at h;simp only[Bool.and_eq_true]at V;have h1:=Nat.eq_of_beq_eq_true V.1;have D:=Nat.eq_of_beq_eq_true V.2;subst h1;subst D
    cases h;simp only[Prod.mk.injEq,List.cons.injEq,and_true]at he;subst he;exact bP o N ids env.ev σ x aj (ai.b5 u)
 all_goals (simp only[F5]at h;cases h)
theorem aaJ{op:BinOp}{T:Nat}{a b r:U}(bP:∀(o:Oper) (N:Nat) (ids:List Nat) (ev:Operand→U) (σ:Y) (x y:Operand) (aW:Nat),o.op=.binOp op T x y aW→ev x=a→ev y=b→Yields ⟨P,N,ids⟩ o ev σ [] [] r){s:cA}{aI:cf}(h:F3 env op T r o.op=some (s,aI))(he:aI=([a,b],[])):e1 ⟨P,N,ids⟩ o env σ s:=by
 cases aj:o.op<;>rw[aj]at h
 case binOp KS S x y aW=>
  simp only[F3]at h;split at h
  ·cases h
  ·rename_i e8 u;split at h
   ·cases h
   ·rename_i aN ah;generalize V:(decide (KS=op)&&_)=dY at h;cases dY with
    |false=>cases h
    |true=>
     simp only[cond_true]at h;simp only[Bool.and_eq_true]at V;have h1:=of_decide_eq_true V.1;have D:=Nat.eq_of_beq_eq_true V.2;subst h1;subst D
     cases h;simp only[Prod.mk.injEq,List.cons.injEq,and_true]at he;obtain⟨rfl,rfl⟩:=he;exact bP o N ids env.ev σ x y aW aj (ai.b5 u) (ai.b5 ah)
 all_goals (simp only[F3]at h;cases h)
theorem bG.slice3{G:cq}{ev:Operand→U}{T E sz:Nat}{x hi nM:Operand}{f:Bool}{lo:Option Operand}{xs:List (List U)}{ay:Int}(h:o.op=.slice T x lo (some hi) (some nM))(u:hP σ (ev x) (.aX f xs))(aH:jh G.P T E sz)(eF:∀e∈xs,e.length=sz)(vT:tj ev lo)
  (Cs:tj ev (some hi)) (ah7:tj ev (some nM)) (RK:pG ev xs.length (some hi)=ay) (em:pG ev xs.length (some nM)=ay)
  (kz:0≤k6 ev lo∧k6 ev lo≤ay∧ay≤xs.length) (R:List Nat) (b2:∀az:Y,(∀d∈R,az.get d=σ.get d)→hP az (ev x) (.aX f xs)) :
  Yields G o ev σ [] R (.aX true ((xs.take ay.toNat).drop (k6 ev lo).toNat)):=
 .pure λaz cx I β w aP JG aq hop=>by
  have h1:=(b2 az JG).rep aq _ (hop x (by simp[h,Op.operands]));simp only[ar,aO]at h1;obtain⟨a,c,h1,D,ak,_,bc⟩:=h1;generalize aJ:k6 ev lo=l at kz ⊢;have aA:(Instr.sliceBounds true xs.length c (lo.map aP) (some (aP hi)) (some (aP nM))).run G.P w=.ok (l.toNat,ay.toNat,ay.toNat) w:=by
   have hu:0≤ay∧ay≤(c:Int):=by omega
   have zq:0≤l∧l≤(ay.toNat:Int):=by omega
   obtain⟨Ky,aiC,lp,mz⟩:=yu Cs (hop hi (by simp[h,Op.operands]));obtain⟨aif,S5,m1,m2⟩:=yu ah7 (hop nM (by simp[h,Op.operands]));simp only[pG,lp]at RK;simp only[pG,m1]at em;subst RK em;have uR:=run_sliceBound (P:=G.P) (k:=aif) (code:=.slice3Acap) (w:=w) hu;have hr:=run_sliceBound (P:=G.P) (k:=Ky) (n:=S5) (y:=S5.toNat) (code:=.slice3B) (w:=w) (by omega);cases lo with
   |none=>
    simp only[k6]at aJ;subst aJ;simp[Instr.sliceBounds,mz,m2,uR,hr]
   |some y=>
    obtain⟨k,n,an,au⟩:=yu vT (hop y (by simp[h,Op.operands]));simp only[k6,an]at aJ;subst aJ;have:=run_sliceBound (P:=G.P) (k:=k) (code:=.slice3C) (w:=w) zq;simp[Instr.sliceBounds,mz,m2,uR,hr,au,this]
  have eX:(execOp aP o).run G.P w=.ok (.value (.slice (if ay.toNat=l.toNat then a else a.map (·.add (l.toNat*sz))) (ay.toNat-l.toNat) (ay.toNat-l.toNat))) w:=by
   have e2:∀w,(underlying T).run G.P w=.ok (.slice E) w:=λw=>run_underlying aH.gv w;simp only[execOp,h,Instr.sliceAt,Instr.slice,h1,Sem.run_bind,e2,Result.andThen_ok,Option.map_some,aA,aH.size,Sem.run_pure]
  refine⟨_,eX,?_⟩;simp only[ar,aO];have vJ:((xs.take ay.toNat).drop l.toNat).length=ay.toNat-l.toNat:=by rw[List.length_drop,List.length_take];omega
  refine⟨_,ay.toNat-l.toNat,by rw[vJ],by rw[vJ];omega,by omega,λ_=>vJ.symm,?_⟩;by_cases he:(xs.take ay.toNat).drop l.toNat=[]
  ·exact .inl he
  ·right;have bQ:l.toNat<ay.toNat:=by
    rcases Nat.lt_or_ge l.toNat ay.toNat with q|q
    ·exact q
    ·exact absurd (List.eq_nil_of_length_eq_zero (by rw[vJ];omega)) he
   rcases bc with rfl|⟨b,p,rfl,bc⟩
   ·simp at he
   ·refine⟨b,p+l.toNat*sz,?_,FL _ _ _ (λe cb=>eF e (List.mem_of_mem_take cb)) (K0 _ _ _ bc)⟩;rw[if_neg (by omega)];simp[kJ]
theorem aaK(a1:ji P bH){sz:Nat}{xs zs:List (List U)}{a b:Int}(bP:pO sz xs a b zs){s:cA}{aI:cf}(h:Am bH env σ sz zs o.op=some (s,aI))(he:aI=([.aX false xs,.int .i64 a,.int .i64 b,.int .i64 b],[])):e1 ⟨P,N,ids⟩ o env σ s:=by
 obtain⟨bU,cG,dP⟩:=bP;cases aj:o.op<;>rw[aj]at h
 case slice T x lo hi nM=>
  cases nM with
  |none=>cases hi<;>(simp only[Am]at h;cases h)
  |some nM=>cases hi with
   |none=>simp only[Am]at h;cases h
   |some hi=>
    simp only[Am]at h;split at h
    ·rename_i h2 _ _ aH;have hk:=(jf.get a1.tys aH).kd;simp only[l0]at hk;split at h
     ·cases h
     ·rename_i mB u;split at h
      ·rename_i f kE W;split at h
       ·cases h
       ·rename_i e8 aC;split at h
        ·cases h
        ·rename_i aN hf;split at h
         ·cases h
         ·rename_i eL fG;cases V:Nat.beq h2 sz with
          |false=>rw[V]at h;cases h
          |true=>
           rw[V]at h;cases h
           simp only[Prod.mk.injEq,List.cons.injEq,U.aX.injEq,U.int.injEq,and_true,true_and]at he;obtain⟨rfl,rfl,rfl,Jn⟩:=he;have:=Nat.eq_of_beq_eq_true V;subst this;obtain⟨an,au⟩:=Mq aC;obtain⟨aK,aG⟩:=Mr hf;obtain⟨bb,bC⟩:=Mr fG
           have ha:=bG.slice3 (G:=⟨P,N,ids⟩) (σ:=σ) aj (by rw[ai.b5 u];exact qZ W) hk.1 bU an aK bb aG (bC.trans Jn) (by rw[au];exact cG) (Az mB) (λaz b2=>by
            rw[ai.b5 u];have:iJ [] az mB=some (.aX f kE):=by
             cases mB
             case own d=>simp only[iJ]at W ⊢;rw[b2 _ (by simp[Az])];exact W
             case aX b l=>cases b<;>exact W
             case dm d=>simp only[iJ]at W;split at W<;>first|cases W|(split at W<;>cases W)
             case agg l=>simp only[iJ]at W;split at W<;>cases W
             case cD l=>simp only[iJ]at W;split at W<;>cases W
             case fn f l=>simp only[iJ]at W;split at W<;>cases W
             all_goals exact W
            exact qZ this)
           rw[au,dP]at ha;exact ha
      ·cases h
    ·cases h
 all_goals (simp only[Am]at h;cases h)
theorem S9{P:Program}(op:BinOp)(t:TypeId)(x y:Operand)(a e8:Option Addr)(n kC c qG:Nat)(w:World):(eqGuard op t x y (.slice a n c) (.slice e8 kC qG)).run P w=.ok () w:=by
 unfold eqGuard;cases op<;>rfl
theorem ak1{P:Program}(w:World)(t e:TypeId)(a:Option Addr)(n c kC qG:Nat)(h:P.underlying t=some (.slice e)):(binOp .neq t (.slice a n c) (.slice none kC qG)).run P w=.ok (.bool (!a.isNone)) w:=by
 simp only[binOp];simp[Op.equal,Op.maxDepth,Lib.run_equalIn_slice_nil w 9999 t e a n c kC qG h]
theorem aaL(a1:ji P bH){neg:Bool}{a:U}(bP:Qu a){s:cA}{aI:cf}(h:Gx bH env neg o.op=some (s,aI))(he:aI=([a],[])):e1 ⟨P,N,ids⟩ o env σ s:=by
 cases aj:o.op<;>rw[aj]at h
 case binOp op T x y ko=>
  simp only[Gx]at h;split at h
  ·cases h
  ·rename_i e8 u;split at h
   ·rename_i ah;split at h
    ·rename_i aA e2 b6 E cQ fo jX aH;have hu:P.underlying T=some (.slice E):=(jf.get a1.tys aH).kd.1.gv;have key:∀(e8:U),env.cz x=some e8→e8=a→∀(I:bw) (β:Nat→Value) (aP:Operand→Value),(∀z∈o.op.operands,ar I β (env.ev z) (aP z))→∃p n c,aP x=.slice (some p) n c∧aP y=.slice none 0 0:=by
      intro e8 u e I β aP hop;have h1:=hop x (by simp[aj,Op.operands]);rw[ai.b5 u,e]at h1;have D:=hop y (by simp[aj,Op.operands]);rw[ai.b5 ah]at D;simp only[ar,aO]at D;obtain⟨p,n,c,e⟩:=bP I β _ h1;exact⟨p,n,c,e,D⟩
     split at h
     ·cases neg with
      |true=>cases h
      |false=>
       cases h;simp only[Prod.mk.injEq,List.cons.injEq,and_true]at he;refine .pure λ_ _ I β w aP _ _ hop=>?_;obtain⟨p,n,c,aA,e2⟩:=key _ u he I β aP hop;refine⟨.bool false,?_,by simp[ar,aO]⟩;simp only[execOp,aj,aA,e2,Sem.run_bind,S9,Result.andThen_ok,Lib.run_eql_slice_nil w T E (some p) n c 0 0 hu];rfl
     ·cases neg with
      |false=>cases h
      |true=>
       cases h;simp only[Prod.mk.injEq,List.cons.injEq,and_true]at he;refine .pure λ_ _ I β w aP _ _ hop=>?_;obtain⟨p,n,c,aA,e2⟩:=key _ u he I β aP hop;refine⟨.bool true,?_,by simp[ar,aO]⟩;simp only[execOp,aj,aA,e2,Sem.run_bind,S9,Result.andThen_ok,ak1 w T E (some p) n c 0 0 hu];rfl
     ·cases h
    ·cases h
   ·cases h
 all_goals (simp only[Gx]at h;cases h)
theorem zV(a1:ji P bH):∀{hint:Hint P} {s:cA} {aI:cf},yB bH ids o env σ hint=some (s,aI)→aI=hint.exp→e1 ⟨P,N,ids⟩ o env σ s
 |.Bv,s,aI,h,he=>by
  simp only[yB]at h;split at h
  ·rename_i R bE ah;cases h;exact aa3 a1 ah
  ·split at h
   ·rename_i dg W;cases h;exact aa4 a1 W
   ·cases h
 |.al d,s,aI,h,he=>by
  simp only[yB]at h;split at h
  ·rename_i dg W;cases h;exact aa5 a1 W
  ·cases h
 |.to cb a b e,s,aI,h,he=>by
  simp only[yB]at h;split at h
  ·rename_i R bE qu W;cases h
   simp only[Hint.exp,Prod.mk.injEq,List.cons.injEq]at he;obtain⟨⟨h1,D⟩,ak⟩:=he;have:=zV a1 W (Prod.ext D ak);simp only[e1]at this ⊢;rw[←e,←h1];exact this
  ·cases h
 |.ix sz xs i row bP,s,aI,h,he=>aa6 a1 bP h he
 |.lo d sz xs i off row bP,s,aI,h,he=>aa7 a1 bP h he
 |.so d sz xs i off ca zs bP k hk,s,aI,h,he=>aa8 a1 bP hk h he
 |.rf f sU cO r bP aa,s,aI,h,he=>aba bP aa h he
 |.ro uT f σs cO r bP aa,s,aI,h,he=>aa9 bP aa h he
 |.le ds f cO r bP aa,s,aI,h,he=>abb bP aa h he
 |.lq news f dB cO r σ2 bP aa,s,aI,h,he=>abc bP aa h he
 |.dl ds news f cO r σ2 bP aa vr,s,aI,h,he=>abd bP aa vr h he
 |.gs y3 ex f bP,s,aI,h,he=>bP o N ids env σ s aI h he
 |.ap d2 sz bytes xs bu zs bP,s,aI,h,he=>aaz a1 bP h he
 |.sl sz xs a b zs bP,s,aI,h,he=>aaB a1 bP h he
 |.ws d2 sz xs a zs bP,s,aI,h,he=>aaA a1 bP h he
 |.qr n bP,s,aI,h,he=>aaC bP h he
 |.sh n bP,s,aI,h,he=>aaD bP h he
 |.is h5 n b bP,s,aI,h,he=>Y3 a1 bP h he
 |.lk E k bx n a b bP,s,aI,h,he=>aaE a1 bP h he
 |.sr k bx n v k0 bP,s,aI,h,he=>aaF a1 bP h he
 |.lm k bx n bP,s,aI,h,he=>aaG a1 bP h he
 |.Ln neg T a b r bP,s,aI,h,he=>aaH bP h he
 |.Lm neg a bP,s,aI,h,he=>aaL a1 bP h he
 |.s3 sz xs a b zs bP,s,aI,h,he=>aaK a1 bP h he
 |.pu T aW a r bP,s,aI,h,he=>aaI bP h he
 |.pb op T a b r bP,s,aI,h,he=>aaJ bP h he
end
end
section
inductive l4 where
 |cU (ds:List Nat)
 |ad (t d T sz:Nat)
 |ac (d0 d T sz i:Nat)
 |kV (a b:Nat)
 |sc (d0:Nat) (k9:List Nat)
 |rn (a b:Nat)
 |wi (d:Nat)
def wm(ids:List Nat)(env:ai)(σ:Y):l4→Option (ai×Y)
 |.cU ds=>some (env,σ.freeze ds)
 |.ad t d T sz=>match env.find t with
  |some .cV=>bif (σ.get d).isNone&&!ids.contains d&&env.clean (Nat.beq d)&&σ.clean (Nat.beq d)then some ((t,.own d)::env,(d,.slice T sz [] 0 false)::σ)else none
  |_=>none
 |.ac d0 d T sz i=>match σ.get d0 with
  |some (.cells aV cs)=>(match cs.drop i with
   |.cV::post=>bif !Nat.beq d0 d&&!ids.contains d&&env.clean (Nat.beq d)&&σ.clean (Nat.beq d)then some (env,(d,.slice T sz [] 0 false)::σ.set d0 (.cells aV (cs.take i++.own d::post)))else none
   |_=>none)
  |_=>none
 |.kV a b=>bif ys (swp a b) (swp a b) ids env σ then some (env.cH (swp a b),σ.cH (swp a b))else none
 |.rn a b=>bif ys (λd=>bif Nat.beq d a then b else d) (λd=>bif Nat.beq d b then a else d) ids env σ then some (env.cH (λd=>bif Nat.beq d a then b else d),σ.cH (λd=>bif Nat.beq d a then b else d))else none
 |.sc d0 k9=>match σ.get d0 with
  |some (.cells aV cs)=>(match q3 k9 σ cs with|none=>none|some mR=>some (env,σ.set d0 (.cells aV mR)))
  |_=>none
 |.wi d=>match σ.get d with
  |some (.slice T sz xs _ _)=>some (env,Y.set d (.win T sz xs) (σ.freeze [d]))
  |_=>none
def wT(ids:List Nat):List l4→ai→Y→Option (ai×Y)
 |[],env,σ=>some (env,σ)
 |m::r,env,σ=>match wm ids env σ m with
  |none=>none
  |some (e,s)=>wT ids r e s
variable {G:cq}
theorem aaM{env dx:ai}{σ σ2:Y}{m:l4}(h:wm G.ids env σ m=some (dx,σ2)):b8 G env σ dx σ2:=by
 cases m with
 |cU ds=>cases h;exact b8.freeze G env σ ds
 |ad t d T sz=>
  simp only[wm]at h;split at h
  ·rename_i aT;generalize V:((σ.get d).isNone&&_&&_&&_)=dY at h;cases dY with
   |false=>cases h
   |true=>
    cases h;simp only[Bool.and_eq_true,Bool.not_eq_true',Option.isNone_iff_eq_none]at V;exact b8.abX t d T sz (ai.oy aT) V.1.1.1 V.1.1.2 V.1.2 V.2
  ·cases h
 |ac d0 d T sz i=>
  simp only[wm]at h;split at h
  ·rename_i aV cs bJ;split at h
   ·rename_i post aB;generalize V:(!Nat.beq d0 d&&_&&_&&_)=dY at h;cases dY with
    |false=>cases h
    |true=>
     cases h;simp only[Bool.and_eq_true,Bool.not_eq_true']at V;exact b8.ZU d0 d T sz aV (cs.take i) post (by rw[bJ,←aB,List.take_append_drop]) V.1.1.1 V.1.1.2 V.1.2 V.2
   ·cases h
  ·cases h
 |kV a b=>
  simp only[wm]at h;cases V:ys (swp a b) (swp a b) G.ids env σ with
  |false=>rw[V]at h;cases h
  |true=>rw[V]at h;cases h;exact b8.cH _ _ V
 |rn a b=>
  simp only[wm]at h;generalize V:ys _ _ _ _ _=dY at h;cases dY with
  |false=>cases h
  |true=>cases h;exact b8.cH _ _ V
 |wi d=>
  simp only[wm]at h;split at h
  ·rename_i T sz xs k cU Z;cases h;exact(b8.freeze G env σ [d]).trans (b8.win (by rw[Y.l8,Z];simp only[Option.map_some,List.mem_singleton,if_true,cn.ud]) rfl)
  ·cases h
 |sc d0 k9=>
  simp only[wm]at h;split at h
  ·rename_i aV cs bJ;split at h
   ·cases h
   ·rename_i mR W;cases h;refine λcx I β a w aq bB=>⟨I,β,?_,bB⟩;have hT:=x4 W;refine{aq with cB:=λd o Z=>?_,dn:=λd eD Z dw ct b=>?_}
    ·rw[Y.hU]at Z;split at Z
     ·rename_i nX;subst nX;rw[bJ]at Z;simp only[Option.map_some,Option.some.injEq]at Z;subst Z;have:=aq.cB d _ bJ;simp only[aU]at this ⊢;rcases this with h1|⟨b,arr,h1,D,ak,bc⟩
      ·exact .inl h1
      ·exact .inr ⟨b,arr,h1,D,hT.rep aq _ ak,bc⟩
     ·exact aq.cB d o Z
    ·have key:∀x,((σ.set d0 (.cells aV mR)).get x).isSome→(σ.get x).isSome:=λx u=>by
      rw[Y.hU]at u;split at u
      ·rename_i he;subst he;rw[bJ];rfl
      ·exact u
     exact aq.dn d eD (key d Z) (key eD dw) ct b
  ·cases h
theorem z8{G:cq}:∀{iB:List l4} {env dx:ai} {σ σ2:Y},wT G.ids iB env σ=some (dx,σ2)→b8 G env σ dx σ2
 |[],env,_,σ,_,h=>by cases h;exact b8.refl G env σ
 |m::r,env,dx,σ,σ2,h=>by
  simp only[wT]at h;split at h
  ·cases h
  ·rename_i e s hm;exact(aaM hm).trans (z8 h)
def yC(sl:List Nat)(k9:List Nat)(σ:Y)(env:ai):List Nat→Option ai
 |[]=>some []
 |k::r=>match env.find k with
  |none=>none
  |some a=>match(bif sl.any (Nat.beq k)then iJ k9 σ a else some a)with
   |none=>none
   |some b=>match yC sl k9 σ env r with
    |none=>none
    |some l=>some ((k,b)::l)
theorem C3{sl:List Nat}{k9:List Nat}{σ:Y}{env:ai}:∀{ks:List Nat} {dx:ai},yC sl k9 σ env ks=some dx→v8 σ env dx
 |[],dx,h=>by cases h;trivial
 |k::r,dx,h=>by
  simp only[yC]at h;split at h
  ·cases h
  ·rename_i a aC;split at h
   ·cases h
   ·rename_i b V;split at h
    ·cases h
    ·rename_i l aJ;cases h;refine⟨?_,C3 aJ⟩;rw[ai.oy aC];cases W:sl.any (Nat.beq k)with
     |false=>rw[W]at V;cases V;exact .refl _
     |true=>rw[W]at V;exact qZ V
def Dx(ids:List Nat)(iB:List l4)(sl:List Nat)(ks ds:List Nat)(env:ai)(σ:Y):Option (ai×Y):=match wT ids iB env σ with
 |none=>none
 |some (e,s)=>match yC sl ds s e ks with
  |none=>none
  |some e2=>match s.at ds with
   |none=>none
   |some dO=>some (e2,dO)
theorem Xv{iB:List l4}{sl:List Nat}{ks ds:List Nat}{env dx:ai}{σ σ2:Y}(h:Dx G.ids iB sl ks ds env σ=some (dx,σ2)):b8 G env σ dx σ2:=by
 simp only[Dx]at h;split at h
 ·cases h
 ·rename_i e s hm;split at h
  ·cases h
  ·rename_i e2 hk;split at h
   ·cases h
   ·rename_i dO W;cases h;exact(z8 hm).trans (b8.of (C3 hk) (Y.oa W).1)
abbrev qh(e:ai):List Nat:=e.map (·.1)
theorem b8.go{env dx:ai}{σ σ2:Y}(iB:List l4)(sl:List Nat)(h:Dx G.ids iB sl (qh dx) σ2.ids env σ=some (dx,σ2)):b8 G env σ dx σ2:=Xv h
def AA(ops:Array Oper)(o:Oper)(env:ai):Option Bool:=match o.guard with
 |none=>some true
 |some (j,want)=>match ops[j]? with
  |none=>none
  |some dK=>match dK.dst with
   |none=>none
   |some gY=>match env.find gY with
    |some (.bool true)=>some want
    |some (.bool false)=>some (!want)
    |some .undef=>some false
    |_=>none
variable {o:Oper}{ops:Array Oper}
theorem yg{env:ai}(h:AA ops o env=some true):iE ops o env:=by
 unfold AA at h;split at h
 ·exact iE.n ‹_›
 ·rename_i j want bl;split at h
  ·cases h
  ·rename_i dK aM;split at h
   ·cases h
   ·rename_i gY Z;split at h
    ·rename_i he;cases h;exact iE.g bl aM Z (ai.oy he) rfl
    ·rename_i he;simp only[Option.some.injEq,Bool.not_eq_true']at h;subst h;exact iE.g bl aM Z (ai.oy he) rfl
    ·cases h
    ·cases h
theorem NW{env:ai}(h:AA ops o env=some false):k5 ops o env:=by
 unfold AA at h;split at h
 ·cases h
 ·rename_i j want bl;split at h
  ·cases h
  ·rename_i dK aM;split at h
   ·cases h
   ·rename_i gY Z;split at h
    ·rename_i he;cases h;exact k5.g bl aM Z (ai.oy he) rfl
    ·rename_i he;simp only[Option.some.injEq,Bool.not_eq_false']at h;subst h;exact k5.g bl aM Z (ai.oy he) rfl
    ·rename_i he;exact k5.undef bl aM Z (ai.oy he)
    ·cases h
def qq{P:Program}(bH:gC)(ids:List Nat)(ops:Array Oper)(s:jT):List (Nat×Hint P)→List (Nat×List Nat)→ai→Y→Option (ai×Y×List cf)
 |[],_,env,σ=>some (env,σ,[])
 |(i,h)::r,log,env,σ=>match ops[i]? with
  |none=>none
  |some o=>match AA ops o env with
   |none=>none
   |some false=>(match qq bH ids ops s r (bif m3 s i then(i,[])::log else log) (env.put o.dst .undef) σ with
    |none=>none
    |some (e,dg,i2)=>some (e,dg,([],[])::i2))
   |some true=>match yB bH ids o env σ h with
    |none=>none
    |some (.y R bE,aI)=>bif !m3 s i||Hj σ R then(match qq bH ids ops s r (bif m3 s i then(i,R)::log else log) (env.put o.dst bE) σ with
     |none=>none
     |some (e,dg,i2)=>some (e,dg,aI::i2))else none
    |some (.v d qu bE,aI)=>bif m3 s i&&env.clean [d].contains&&σ.clean [d].contains&&P7 qu then(match qq bH ids ops s r ((i,[d])::log) (env.put o.dst bE) ((d,qu)::σ)with
     |none=>none
     |some (e,dg,i2)=>some (e,dg,aI::i2))else none
    |some (.e M news bE az,aI)=>bif sg s i&&(!s.e6||qf s i M log)&&env.clean news.contains&&news.all (λd=>(σ.get d).isNone)then(match qq bH ids ops s r log (env.put o.dst bE) az with
     |none=>none
     |some (e,dg,i2)=>some (e,dg,aI::i2))else none
theorem HO{s:jT}{i:Nat}(h:m3 s i=false):sg s i=true:=by
 unfold m3 at h;unfold sg
 cases Z:s.e6<;>simp_all
theorem uu{P:Program}{bH:gC}{N:Nat}{ids:List Nat}{ops:Array Oper}{s:jT}{K:ai→Y→Prop}(a1:ji P bH):∀{fe:List (Nat×Hint P)} {log:List (Nat×List Nat)} {env ry:ai} {σ nh:Y} {i2:List cf},
  qq bH ids ops s fe log env σ=some (ry,nh,i2)→i2=fe.map (λp=>p.2.exp)→K ry nh→e7 ⟨P,N,ids⟩ ops s log (fe.map (·.1)) env σ K
 |[],log,env,ry,σ,nh,i2,h,_,k=>by cases h;exact C.nil k
 |(i,hi)::r,log,env,ry,σ,nh,i2,h,he,k=>by
  simp only[qq]at h;split at h
  ·cases h
  ·rename_i o aj;split at h
   ·cases h
   ·rename_i aq;split at h
    ·cases h
    ·rename_i e dg Bm ax;cases h;simp only[List.map_cons,List.cons.injEq]at he ⊢;cases aB:m3 s i with
     |true=>rw[aB]at ax;exact C.skip aj (NW aq) aB (uu a1 ax he.2 k)
     |false=>rw[aB]at ax;exact C.abY aj (NW aq) (HO aB) (uu a1 ax he.2 k)
   ·rename_i aq;split at h
    ·cases h
    ·rename_i R bE aI W;generalize V:(!m3 s i||_)=dY at h;cases dY with
     |false=>cases h
     |true=>
      simp only[cond_true]at h;split at h
      ·cases h
      ·rename_i e dg Bm ax;cases h;simp only[List.map_cons,List.cons.injEq]at he ⊢;have ha:=zV (N:=N) a1 W he.1;cases aB:m3 s i with
       |true=>
        rw[aB]at ax V;exact C.y aj (yg aq) aB (by simpa using V) ha (uu a1 ax he.2 k)
       |false=>
        rw[aB]at ax;exact C.sX aj (yg aq) (HO aB) ha (uu a1 ax he.2 k)
    ·rename_i d qu bE aI W;generalize V:(m3 s i&&_&&_&&_)=dY at h;cases dY with
     |false=>cases h
     |true=>
      simp only[cond_true]at h;simp only[Bool.and_eq_true]at V;split at h
      ·cases h
      ·rename_i e dg Bm ax;cases h;simp only[List.map_cons,List.cons.injEq]at he ⊢;have ha:=zV (N:=N) a1 W he.1;exact C.v aj (yg aq) V.1.1.1 ha.1 V.1.1.2 V.1.2 V.2 ha.2 (uu a1 ax he.2 k)
    ·rename_i M news bE az aI W;generalize V:(sg s i&&_&&_&&_)=dY at h;cases dY with
     |false=>cases h
     |true=>
      simp only[cond_true]at h;simp only[Bool.and_eq_true]at V;split at h
      ·cases h
      ·rename_i e dg Bm ax;cases h;simp only[List.map_cons,List.cons.injEq]at he ⊢;have ha:=zV (N:=N) a1 W he.1;refine C.e aj (yg aq) V.1.1.1 ha.1 V.1.1.2 V.1.2 ?_ (λa dO cb=>?_)
       ·rw[List.all_eq_true];intro d Z;rw[Bool.and_eq_true];exact⟨List.all_eq_true.1 ha.2 d Z,List.all_eq_true.1 V.2 d Z⟩
       ·obtain⟨rfl,rfl⟩:=cb;exact uu a1 ax he.2 k
def Ql(l:List Nat)(n:Nat):List Nat:=bif l.any (Nat.beq n)then l else n::l
def Bn(ops:List Oper):List (List Nat):=
 (ops.foldl (λ(T:List (List Nat)) o=>(o.after.toList.foldl (λw e=>bif Region.binds .any e then(T.getD (T.length-1-e.on) []).foldl Ql (Ql w e.on)else w) [])::T) []).reverse
def Hint.y3{P:Program}:Hint P→Bool
 |.lq ..|.dl ..|.ap ..=>true
 |.gs e _ _ _=>e
 |_=>false
def ad7:Op→Bool
 |.assign _|.store ..|.mapUpdate ..|.insert ..|.entryStore ..|.makeSlice ..=>true
 |_=>false
def hintOf{P:Program}(W:List (Nat×Hint P))(i:Nat):Hint P:=match W with
 |[]=>.Bv
 |(k,h)::r=>bif Nat.beq k i then h else hintOf r i
def Ip{P:Program}(W:List (Nat×Hint P)):Nat→List Oper→List Nat
 |_,[]=>[]
 |i,o::r=>bif ad7 o.op||(hintOf W i).y3 then i::Ip W (i+1) r else Ip W (i+1) r
def Iq(T:List (List Nat))(es left:List Nat):List Nat→Option Nat→Option Nat
 |[],f=>f
 |i::r,f=>bif (T.getD i []).any (λj=>left.any (Nat.beq j))then Iq T es left r f
   else bif es.any (Nat.beq i)then Iq T es left r (match f with|none=>some i|some x=>some x)else some i
def OA(T:List (List Nat))(es:List Nat):Nat→List Nat→List Nat
 |0,_=>[]
 |n+1,left=>match Iq T es left left none with
  |none=>[]
  |some i=>i::OA T es n (left.filter λj=>!Nat.beq i j)
def j8{P:Program}(ops:Array Oper)(e6:Bool)(W:List (Nat×Hint P)):jT×List Nat:=
 bif e6 then
  let T:=Bn ops.toList
  let es:=Ip W 0 ops.toList
  (⟨true,T,es⟩,OA T es ops.size (List.range ops.size))
 else(⟨false,[],[]⟩,List.range ops.size)
def FT(N:Nat)(ops:Array Oper)(e6:Bool)(s:jT)(l:List Nat):Bool:=bif e6 then s.e6&&DD N ops s l else !s.e6&&s.T.isEmpty&&s.es.isEmpty&&uO N ops
def uY{P:Program}(bH:gC)(N:Nat)(ids:List Nat)(ops:Array Oper)(e6:Bool)(s:jT)(l:List Nat)(iB:List l4)(W:List (Nat×Hint P))(ks ds:List Nat)(env:ai)(σ:Y):Option (ai×Y×List cf):=
 bif FT N ops e6 s l then
  (match wT ids iB env σ with
  |none=>none
  |some (e0,h5)=>match qq bH ids ops s (l.map λi=>(i,hintOf W i)) [] e0 h5 with
   |none=>none
   |some (aA,dF,i2)=>match yC [] ds dF aA ks with
    |none=>none
    |some e2=>match dF.at ds with
     |none=>none
     |some dO=>some (e2,dO,i2))
 else none
section code
variable {P:Program}{N:Nat}{ids:List Nat}{bH:gC}{env:ai}{σ:Y}{Q:Exit→ai→Y→Prop}{x y c:Code}
theorem A.R(a1:ji P bH){id:Nat}{ops:Array Oper}{e6:Bool}(iB:List l4)(W:List (Nat×Hint P))(dx:ai)(σ2:Y)
  (h:uY bH N ids ops e6 (j8 ops e6 W).1 (j8 ops e6 W).2 iB W (qh dx) σ2.ids env σ=some (dx,σ2,(j8 ops e6 W).2.map λi=>(hintOf W i).exp)) (k:Q .normal dx σ2):aY ⟨P,N,ids⟩ (.region id ops e6) Q env σ:=by
 generalize hT:j8 ops e6 W=sl at h;obtain⟨s,l⟩:=sl;simp only[uY]at h;cases iP:FT N ops e6 s l with
 |false=>rw[iP]at h;cases h
 |true=>
  rw[iP]at h;simp only[cond_true]at h;split at h
  ·cases h
  ·rename_i e0 h5 hm;split at h
   ·cases h
   ·rename_i aA dF i2 ax;split at h
    ·cases h
    ·rename_i e2 hk;split at h
     ·cases h
     ·rename_i dO eA;simp only[Option.some.injEq,Prod.mk.injEq]at h;obtain⟨rfl,rfl,aj⟩:=h;refine A.weak (z8 hm) ?_
      have aa:∀K:ai→Y→Prop,K aA dF→e7 ⟨P,N,ids⟩ ops s [] l e0 h5 K:=λK fz=>by
       have:=uu (N:=N) (K:=K) a1 ax (by rw[aj,List.map_map];rfl) fz;rw[List.map_map,show((λx:Nat×Hint P=>x.1)∘λi=>(i,hintOf W i))=λi=>i from rfl,List.map_id']at this;exact this
      refine A.late ?_;have Qm:∃dx σ2,b8 ⟨P,N,ids⟩ aA dF dx σ2∧Q .normal dx σ2:=⟨e2,dO,b8.of (C3 hk) (Y.oa eA).1,k⟩;cases e6 with
      |false=>
       simp only[FT,cond_false,Bool.and_eq_true,Bool.not_eq_true',List.isEmpty_iff]at iP;have lC:s=⟨false,[],[]⟩:=by
        obtain⟨a,b,c⟩:=s;simp only at iP;obtain⟨⟨⟨h1,D⟩,ak⟩,bc⟩:=iP;subst h1 D ak;rfl
       have aJ:l=List.range ops.size:=by
        have:=congrArg Prod.snd hT;simpa [j8]using this.symm
       subst lC aJ;exact A.region iP.2 (aa _ Qm)
      |true=>
       simp only[FT,cond_true,Bool.and_eq_true]at iP;obtain⟨anb,T,es⟩:=s;obtain⟨h1,D⟩:=iP;simp only at h1;subst h1;exact A.any T es l a1.mix D (aa _ Qm)
theorem A.eB(a1:ji P bH){id:Nat}{ops:Array Oper}{e6:Bool}(iB:List l4)(W:List (Nat×Hint P))(dx:ai)(σ2:Y)
  (h:uY bH N ids ops e6 (j8 ops e6 W).1 (j8 ops e6 W).2 iB W (qh dx) σ2.ids env σ=some (dx,σ2,(j8 ops e6 W).2.map λi=>(hintOf W i).exp)) (k:aY ⟨P,N,ids⟩ y Q dx σ2):aY ⟨P,N,ids⟩ (.seq (.region id ops e6) y) Q env σ:=
 A.seq (A.R a1 iB W dx σ2 h k)
theorem A.kX{G:cq}{o:Operand}{p:Bool}(aa:env.cz o=some (.bool p))(aB:p=true)(k:aY G x Q env σ):aY G (.cond o x y) Q env σ:=A.cond (ai.b5 aa) (λ_=>k) (λbe=>by rw[aB]at be;cases be)
theorem A.jV{G:cq}{o:Operand}{p:Bool}(aa:env.cz o=some (.bool p))(aB:p=false)(k:aY G y Q env σ):aY G (.cond o x y) Q env σ:=A.cond (ai.b5 aa) (λbB=>by rw[aB]at bB;cases bB) (λ_=>k)
theorem A.J{G:cq}{α aP:Type}{J:α→Option aP}{r:aP}(fJ:α→ai)(fS:α→Y)
  (h:aY G x (q8 (λgm az=>∃g,J g=some r∧b8 G gm az (fJ g) (fS g)) Q) env σ) (k:∀g,J g=some r→aY G y Q (fJ g) (fS g)):aY G (.seq x y) Q env σ:=by
 refine A.seq (h.mono ?_);intro e gm az bR;cases e with
 |normal=>
  obtain⟨g,bl,aq⟩:=bR;exact A.weak aq (k g bl)
 |_=>exact bR
theorem A.iS{G:cq}{α S aP:Type}{l:List α}{B:Int→α→(S→Option aP)→S→Option aP}{K:S→Option aP}{h5:S}{hn:Nat}{r:aP}(hm:ez (l.drop hn) hn B K h5=some r)(fJ:Nat→S→ai)(fS:Nat→S→Y)
  (aq:b8 G env σ (fJ hn h5) (fS hn h5))
  (fA:∀(j:Nat) (x:α) (bW:S→Option aP) (s:S),hn≤j→l[j]?=some x→B j x bW s=some r→aY G c (q8 (λgm az=>∃dg,bW dg=some r∧b8 G gm az (fJ (j+1) dg) (fS (j+1) dg)) Q) (fJ j s) (fS j s))
  (s6:∀(j:Nat) (s:S),hn≤j→l.length≤j→K s=some r→aY G c (q8 (λ_ _=>False) Q) (fJ j s) (fS j s)):aY G (.loop c) Q env σ:=by
 refine A.loop (α:=Nat×S) (λg=>fJ g.1 g.2) (λg=>fS g.1 g.2) (λg=>hn≤g.1∧ez (l.drop g.1) g.1 B K g.2=some r) (λg=>l.length-g.1) (hn,h5) ⟨Nat.le_refl _,hm⟩ aq ?_;rintro⟨j,s⟩ ⟨aM,be⟩;simp only at aM be ⊢;by_cases bQ:j<l.length
 ·have u:l[j]?=some l[j]:=List.getElem?_eq_getElem bQ;rw[List.drop_eq_getElem_cons bQ]at be;refine(fA j l[j] (ez (l.drop (j+1)) (j+1) B K) s aM u be).mono ?_;intro e gm az bR;cases e with
  |normal=>
   obtain⟨dg,h1,D⟩:=bR;exact⟨(j+1,dg),⟨by omega,h1⟩,by show l.length-(j+1)<l.length-j;omega,D⟩
  |_=>exact bR
 ·rw[List.drop_eq_nil_of_le (by omega)]at be;refine(s6 j s aM (by omega) be).mono ?_;intro e gm az bR;cases e with
  |normal=>exact bR.elim
  |_=>exact bR
theorem A.CM{G:cq}{S aP:Type}{zR:Nat}{nD hi:Int}{B:Int→(S→Option aP)→S→Option aP}{K:Int→S→Option aP}{h5:S}{r:aP}(hm:mK zR nD B K h5=some r)(aT:zR=(hi-nD).toNat)(fJ:Int→S→ai)(fS:Int→S→Y)
  (aq:b8 G env σ (fJ nD h5) (fS nD h5))
  (fA:∀(i:Int) (bW:S→Option aP) (s:S),nD≤i→i<hi→B i bW s=some r→aY G c (q8 (λgm az=>∃dg,bW dg=some r∧b8 G gm az (fJ (i+1) dg) (fS (i+1) dg)) Q) (fJ i s) (fS i s))
  (s6:∀(i:Int) (s:S),nD≤i→hi≤i→K i s=some r→aY G c (q8 (λ_ _=>False) Q) (fJ i s) (fS i s)):aY G (.loop c) Q env σ:=by
 refine A.loop (α:=Nat×Int×S) (λg=>fJ g.2.1 g.2.2) (λg=>fS g.2.1 g.2.2) (λg=>nD≤g.2.1∧g.1=(hi-g.2.1).toNat∧mK g.1 g.2.1 B K g.2.2=some r) (λg=>g.1) (zR,nD,h5) ⟨Int.le_refl _,aT,hm⟩ aq ?_;rintro⟨n,i,s⟩ ⟨aM,aT,be⟩;simp only at aM aT be ⊢;cases n with
 |zero=>
  refine(s6 i s aM (by omega) be).mono ?_;intro e gm az bR;cases e with
  |normal=>exact bR.elim
  |_=>exact bR
 |succ n=>
  refine(fA i (mK n (i+1) B K) s aM (by omega) be).mono ?_;intro e gm az bR;cases e with
  |normal=>
   obtain⟨dg,h1,D⟩:=bR;exact⟨(n,i+1,dg),⟨by show nD≤i+1;omega,by show n=(hi-(i+1)).toNat;omega,h1⟩,by show n<n+1;omega,D⟩
  |_=>exact bR
theorem A.q7{G:cq}{S aP:Type}{F:(S→Option aP)→S→Option aP}{zR:Nat}{h5:S}{r:aP}(hm:iter F zR h5=some r)(fJ:S→ai)(fS:S→Y)(aq:b8 G env σ (fJ h5) (fS h5))
  (fA:∀(bW:S→Option aP) (s:S),F bW s=some r→aY G c (q8 (λgm az=>∃dg,bW dg=some r∧b8 G gm az (fJ dg) (fS dg)) Q) (fJ s) (fS s)):aY G (.loop c) Q env σ:=by
 refine A.loop (α:=Nat×S) (λg=>fJ g.2) (λg=>fS g.2) (λg=>iter F g.1 g.2=some r) (λg=>g.1) (zR,h5) hm aq ?_;rintro⟨n,s⟩ be;cases n with
 |zero=>cases be
 |succ n=>
  refine(fA (iter F n) s be).mono ?_;intro e gm az bR;cases e with
  |normal=>
   obtain⟨dg,h1,D⟩:=bR;exact⟨(n,dg),h1,by show n<n+1;omega,D⟩
  |_=>exact bR
theorem T6{I:bw}{b:Nat}:∀{e:List U} {o:Nat} {x:U},jY I b e o→x∈e→∃ay,aO I x ay
 |[],_,_,_,h=>by simp at h
 |y::r,o,x,ax,h=>by
  simp only[jY]at ax;rcases List.mem_cons.1 h with rfl|h
  ·obtain⟨ay,_,D⟩:=ax.1;exact⟨ay,D⟩
  ·exact T6 ax.2 h
theorem TN{I:bw}{b:Nat}:∀{xs:List (List U)} {o:Nat} {e:List U},iG I b xs o→e∈xs→∃o,jY I b e o
 |[],_,_,_,h=>by simp at h
 |y::r,o,x,ax,h=>by
  simp only[iG]at ax;rcases List.mem_cons.1 h with rfl|h
  ·exact⟨o,ax.1⟩
  ·exact TN ax.2 h
theorem Um{I:bw}:∀{e:List U} {vs:List Value} {x:U},b9 I e vs→x∈e→∃ay,aO I x ay
 |[],_,_,_,h=>by simp at h
 |y::r,vs,x,ax,h=>by
  simp only[b9]at ax;obtain⟨ay,bF,_,h1,D⟩:=ax;rcases List.mem_cons.1 h with rfl|h
  ·exact⟨ay,h1⟩
  ·exact Um D h
theorem aO.lK{I:bw}:∀(n:Nat) (f:Bool) (xs:List (List U)) (v:Value),aO I (.aX f xs) v→Hw n xs
 |0,f,xs,v,h=>by
  simp only[aO]at h;obtain⟨a,c,_,h1,D,_⟩:=h;exact Nat.le_trans h1 D
 |n+1,f,xs,v,h=>by
  simp only[aO]at h;obtain⟨a,c,_,h1,D,_,ak⟩:=h;refine⟨Nat.le_trans h1 D,λe he g bu ah=>?_⟩;rcases ak with rfl|⟨b,o,_,bc⟩
  ·simp at he
  ·obtain⟨g4,bX⟩:=TN bc he;obtain⟨ay,dV⟩:=T6 bX ah;exact aO.lK n g bu ay dV
theorem ar.lK{I:bw}{β:Nat→Value}{f:Bool}{xs:List (List U)}{v:Value}(h:ar I β (.aX f xs) v):lK xs:=λn=>aO.lK n f xs v (by simpa only[ar]using h)
theorem bO.lK{I:bw}{β:Nat→Value}{f:Bool}{xs:List (List U)}:∀{cs:List U} {vs:List Value} {i:Nat},bO I β cs vs→cs[i]?=some (.aX f xs)→lK xs:=λh hi=>by
 obtain⟨v,_,D⟩:=Gr h hi;exact ar.lK D
theorem aaN{G:cq}{cx:eO}{I:bw}{β:Nat→Value}{σ:Y}{w:World}(aq:bS G cx I β σ w){d:Nat}{T sz k:Nat}{cU:Bool}{xs:List (List U)}(Z:σ.get d=some (.slice T sz xs k cU)){v:Value}(af:ar I β (.own d) v):lK xs:=by
 obtain⟨a,c,_,an,au⟩:=Uh aq Z af;intro n;cases n with
 |zero=>exact Nat.le_trans an au
 |succ n=>
  refine⟨Nat.le_trans an au,λe he g bu ah=>?_⟩;simp only[ar]at af;have:=aq.cB d _ Z;simp only[aU]at this;rcases this with h1|⟨_,rfl,_⟩|⟨b,aF,arr,_,_,_,_,_,dV,_⟩
  ·rw[af.1,h1]at af;simp[iy]at af
  ·simp at he
  ·obtain⟨ay,fF⟩:=Um dV (List.mem_flatten.2 ⟨e,he,ah⟩);exact aO.lK n g bu ay fF
theorem A.jx{G:cq}{f:Bool}{xs:List (List U)}(t:Nat)(h:env.find t=some (.aX f xs))(k:lK xs→aY G c Q env σ):aY G c Q env σ:=by
 refine aY.of λcx a w ax=>?_;obtain⟨I,β,h1,D,ak,bc⟩:=ax;have af:=D t;rw[ai.oy h]at af;exact(k (ar.lK af)).use cx a w ⟨I,β,h1,D,ak,bc⟩
theorem A.Jd{G:cq}{T sz k:Nat}{cU:Bool}{xs:List (List U)}{d:Nat}(t:Nat)(bB:env.find t=some (.own d))(h:σ.get d=some (.slice T sz xs k cU))(k:lK xs→aY G c Q env σ):aY G c Q env σ:=by
 refine aY.of λcx a w ax=>?_;obtain⟨I,β,h1,D,ak,bc⟩:=ax;have af:=D t;rw[ai.oy bB]at af;exact(k (aaN h1 h af)).use cx a w ⟨I,β,h1,D,ak,bc⟩
theorem A.En{G:cq}{T d:Nat}{f:Bool}{cs:List U}{xs:List (List U)}(t i:Nat)(bB:env.find t=some (.ptr d 0))(h:σ.get d=some (.cells T cs))(hi:cs[i]?=some (.aX f xs))(k:lK xs→aY G c Q env σ):aY G c Q env σ:=by
 refine aY.of λcx a w ax=>?_;obtain⟨I,β,h1,D,ak,bc⟩:=ax;have af:=D t;rw[ai.oy bB]at af;simp only[ar]at af;obtain⟨b,V,_⟩:=af;obtain⟨arr,_,_,iZ,_⟩:=bS.box h1 h V;exact(k (bO.lK iZ hi)).use cx a w ⟨I,β,h1,D,ak,bc⟩
theorem A.mid{G:cq}(dx:ai)(σ2:Y)(h:aY G y Q dx σ2→aY G (.seq x y) Q env σ)(k:aY G y Q dx σ2):aY G (.seq x y) Q env σ:=h k
end code
theorem mx(b:Bool):b=true∨b=false:=by cases b<;>simp
variable {p q:Bool}
theorem wU(h:p=true):U.bool q=.bool (p&&q):=by rw[h];rfl
theorem wV(h:p=false):U.bool false=.bool (p&&q):=by rw[h];rfl
theorem uG(h:p=true):U.bool true=.bool (p||q):=by rw[h];rfl
theorem sx(h:p=false):U.bool q=.bool (p||q):=by rw[h];rfl
theorem Kk{x y:Bool}(h:p=true):U.bool x=.bool (bif p then x else y):=by rw[h];rfl
theorem SK{x y:Bool}(h:p=false):U.bool y=.bool (bif p then x else y):=by rw[h];rfl
theorem c9(h:p=q):U.bool p=.bool q:=by rw[h]
section
variable {P:Program}
def aZ{a b:U}(e:a=b):Hint P:=.to .Bv a b e
def gb(h:Hint P){a b:U}(e:a=b):Hint P:=.to h a b e
def eg{sz:Nat}{xs:List (List U)}{i:Int}{row:List U}(bP:u9 sz xs i row):Hint P:=.ix sz xs i row bP
def kz(d off:Nat){sz:Nat}{xs:List (List U)}{i:Int}{row:List U}(bP:u9 sz xs i row):Hint P:=.lo d sz xs i off row bP
def zB(d:Nat){sz:Nat}{xs:List (List U)}{i:Int}{off:Nat}{ca:List U}{zs:List (List U)}(bP:DS sz xs i off ca zs){k:Nat}(hk:(k:Int)≤i):Hint P:=.so d sz xs i off ca zs bP k hk
def cE{f:FuncId}{σs:Y}{cO:List U}{r:U}(bP:ef P f σs cO r)(aa:dk P f):Hint P:=.ro 0 f σs cO r bP aa
def Qn(uT:Nat){f:FuncId}{σs:Y}{cO:List U}{r:U}(bP:ef P f σs cO r)(aa:dk P f):Hint P:=.ro uT f σs cO r bP aa
def n3{f:FuncId}{sU cO:List U}{r:U}(bP:ef P f [] (cO++sU) r)(aa:dk P f):Hint P:=.rf f sU cO r bP aa
def hle(ds:List Nat){f:FuncId}{cO:List U}{r:U}(bP:ef P f [] cO r)(aa:dk P f):Hint P:=.le ds f cO r bP aa
def vH{E:Nat}{k:IntKind}{bx:List (U×U)}{n:Int}{a:U}{b:Bool}(bP:DP P E k bx n a b):Hint P:=.lk E k bx n a b bP
def vL{k:IntKind}{bx:List (U×U)}{n:Int}{v:U}{k0:List (U×U)}(bP:A7 k bx n v k0):Hint P:=.sr k bx n v k0 bP
def qU{sz:Nat}{xs zs:List (List U)}{a b:Int}(bP:pO sz xs a b zs):Hint P:=.s3 sz xs a b zs bP
def zu{k:IntKind}{bx:List (U×U)}{n:Int}(bP:DQ k bx n):Hint P:=.lm k bx n bP
def gN(news:List Nat){f:FuncId}{dB:Y}{cO:List U}{r:U}{σ2:Y}(bP:gi P f dB cO (λa az=>a=r∧az=σ2))(aa:dk P f):Hint P:=.lq news f dB cO r σ2 bP aa
def qP(d2:Nat){sz bytes:Nat}{xs bu zs:List (List U)}(bP:yP sz bytes xs bu zs):Hint P:=.ap d2 sz bytes xs bu zs bP
def vQ(d2:Nat){sz:Nat}{xs:List (List U)}{a:Int}{zs:List (List U)}(bP:pO sz xs a (xs.length:Int) zs):Hint P:=.ws d2 sz xs a zs bP
def hT{sz:Nat}{xs:List (List U)}{a b:Int}{zs:List (List U)}(bP:pO sz xs a b zs):Hint P:=.sl sz xs a b zs bP
end
variable {α:Type}
theorem ih{l:List α}{j:Nat}{x:α}(h:l[j]?=some x):decide ((j:Int)<(l.length:Int))=true:=by
 obtain⟨h1,_⟩:=List.getElem?_eq_some_iff.1 h;exact decide_eq_true (by omega)
theorem h8{l:List α}{j:Nat}(h:l.length≤j):decide ((j:Int)<(l.length:Int))=false:=decide_eq_false (by omega)
theorem BO{i h:Int}(cb:h≤i):decide (i<h)=false:=decide_eq_false (by omega)
theorem ajq(e:iU α){l m:List α}{a:Int}(h:qo l a (l.length:Int)=some m):pO e.sz (aD e l) a ((aD e l).length:Int) (aD e m):=by rw[mD];exact sl e h
def Dn(P:Program)(T:Nat):List (Nat×Nat)→Nat→Prop
 |[],_=>True
 |(off,_)::r,n=>gM P T n off∧Dn P T r (n+1)
theorem Dn.get{P:Program}{T:Nat}:∀{fe:List (Nat×Nat)} {n f off sz:Nat},Dn P T fe n→fe[f]?=some (off,sz)→gM P T (n+f) off
 |[],_,_,_,_,_,h=>by simp at h
 |(o,s)::r,n,0,off,sz,cb,h=>by simp at h;obtain⟨rfl,rfl⟩:=h;exact cb.1
 |(o,s)::r,n,f+1,off,sz,cb,h=>by
  have:=Dn.get (f:=f) (off:=off) (sz:=sz) cb.2 (by simpa using h)
  rwa [Nat.add_right_comm,Nat.add_assoc]at this
def Db(P:Program)(T:Nat):List (Nat×Nat)→List Bool→Nat→Prop
 |(off,sz)::r,dr::s,n=>gE P T n off sz dr∧Db P T r s (n+1)
 |_,_,_=>True
theorem Db.get{P:Program}{T:Nat}:∀{fe:List (Nat×Nat)} {o1:List Bool} {n f off sz:Nat} {dr:Bool},Db P T fe o1 n→fe[f]?=some (off,sz)→o1[f]?=some dr→gE P T (n+f) off sz dr
 |[],_,_,_,_,_,_,_,h,_=>by simp at h
 |_::_,[],_,_,_,_,_,_,_,h=>by simp at h
 |(o,s)::r,g::o1,n,0,off,sz,dr,cb,h,dc=>by simp at h dc;obtain⟨rfl,rfl⟩:=h;subst dc;exact cb.1
 |(o,s)::r,g::o1,n,f+1,off,sz,dr,cb,h,dc=>by
  have:=Db.get (f:=f) (off:=off) (sz:=sz) (dr:=dr) cb.2 (by simpa using h) (by simpa using dc)
  rwa [Nat.add_right_comm,Nat.add_assoc]at this
theorem l9{P:Program}{T:Nat}{zs:List Value}{fe:List (Nat×Nat)}{o1:List Bool}(h1:j0 P T zs fe)(D:Dn P T fe 0)(ak:Db P T fe o1 0):l0 P T (.struct zs fe o1):=
 ⟨h1,λf off sz h=>by have:=D.get h;rwa [Nat.zero_add]at this,λf off sz dr h dc=>by have:=ak.get h dc;rwa [Nat.zero_add]at this⟩
variable {f:FuncId}
theorem sQ.Hl{P:Program}{hR σ2 σ3:Y}{args:List U}{r r':U}(cU:List Nat)(h:gi P f hR args (λa az=>a=r∧az=σ2))(W:iJ σ3.ids (σ2.freeze cU) r=some r')(aC:(σ2.freeze cU).at σ3.ids=some σ3):
  gi P f hR args (λa az=>a=r'∧az=σ3):=λcx w I β vs h1 D=>Calls.mono (h cx w I β vs h1 D) λ_ _ ⟨v,he,uR,az,aS,β',⟨an,au⟩,aK,aG⟩=>by
 subst an au;obtain⟨A5,hle,aq⟩:=aG.CV cU;refine⟨v,he,r',σ3,A5,β',⟨rfl,rfl⟩,(qZ W).rep aq v (yc hle (g0.refl β') _ _ aK),aq.sub λd o Z=>?_⟩;obtain⟨p,bU,cG,dP⟩:=p8 σ3 d o Z;rw[←cG,←dP];exact(Y.oa aC).1.mem p bU
theorem sQ.at{P:Program}{f:FuncId}{hR σ2:Y}{args:List U}{r:U}(l:List (Nat×Nat))(h:gi P f hR args (λa az=>a=r∧az=σ2)):
  gi P f (hR.cH (pH l)) (py (pH l) args) (λa az=>a=r.cH (pH l)∧az=σ2.cH (pH l)):=
 (h.at l).mono λa s cb=>by
  obtain⟨a0,h5,⟨rfl,rfl⟩,h1,D⟩:=cb;exact⟨h1,D⟩
def uZ(bH:gC)(env:ai)(σ:Y):ResultVar→Option U
 |.tmp t=>env.find t
 |.cell a T=>match env.find a with
  |some (.ptr d 0)=>(match σ.get d with
   |some (.cells _ cs)=>(match bH.get T with
    |some i=>bif Nat.beq cs.length i.sz&&(i.dr||Nat.blt 0 i.sz)then nK i.dr i.sz cs else none
    |none=>none)
   |_=>none)
  |_=>none
def Ed(bH:gC)(env:ai)(σ:Y):List ResultVar→Option (List U)
 |[]=>some []
 |a::r=>match uZ bH env σ a with|none=>none|some x=>match Ed bH env σ r with|none=>none|some xs=>some (x::xs)
def IZ(bH:gC)(env:ai)(σ:Y):List ResultVar→Option U
 |[]=>some (.cD [])
 |[a]=>uZ bH env σ a
 |[a,b]=>match uZ bH env σ a with|none=>none|some x=>match uZ bH env σ b with|none=>none|some y=>some (.cD [x,y])
 |[a,b,c]=>match uZ bH env σ a with|none=>none|some x=>match uZ bH env σ b with|none=>none|some y=>match uZ bH env σ c with|none=>none|some z=>some (.cD [x,y,z])
 |a::b::c::d::r=>match Ed bH env σ (a::b::c::d::r)with|none=>none|some xs=>some (.cD xs)
variable {a:U}
theorem yh{P:Program}{N:Nat}{ids:List Nat}{bH:gC}(a1:ji P bH){env:ai}{σ:Y}{v:ResultVar}(h:uZ bH env σ v=some a):oN ⟨P,N,ids⟩ env σ v a:=by
 cases v with
 |tmp t=>exact Hz.tmp h
 |cell p T=>
  simp only[uZ]at h;split at h
  ·rename_i d aB;split at h
   ·rename_i aW cs Z;split at h
    ·rename_i i aH;generalize V:(Nat.beq cs.length i.sz&&_)=dY at h;cases dY with
     |false=>cases h
     |true=>
      simp only[cond_true]at h;rw[Bool.and_eq_true]at V;exact Hz.cell (jf.get a1.tys aH).ty (ai.oy aB) Z V.1 V.2 h
    ·cases h
   ·cases h
  ·cases h
theorem NX{P:Program}{N:Nat}{ids:List Nat}{bH:gC}(a1:ji P bH){env:ai}{σ:Y}:∀{l:List ResultVar} {xs:List U},Ed bH env σ l=some xs→yJ ⟨P,N,ids⟩ env σ l xs
 |[],xs,h=>by cases h;exact .nil
 |a::r,xs,h=>by
  simp only[Ed]at h;split at h
  ·cases h
  ·rename_i x u;split at h
   ·cases h
   ·rename_i bu ah;cases h;exact .cons (yh a1 u) (NX a1 ah)
theorem Y4{P:Program}{N:Nat}{ids:List Nat}{bH:gC}(a1:ji P bH){env:ai}{σ:Y}{l:List ResultVar}(h:IZ bH env σ l=some a):sB ⟨P,N,ids⟩ env σ l a:=by
 unfold IZ at h;split at h
 ·cases h;exact .zero
 ·exact .one (yh a1 h)
 ·split at h
  ·cases h
  ·rename_i x u;split at h
   ·cases h
   ·rename_i y ah;cases h;exact .two (yh a1 u) (yh a1 ah)
 ·split at h
  ·cases h
  ·rename_i x u;split at h
   ·cases h
   ·rename_i y ah;split at h
    ·cases h
    ·rename_i z hz;cases h;exact .three (yh a1 u) (yh a1 ah) (yh a1 hz)
 ·split at h
  ·cases h
  ·rename_i xs xV;cases h;exact .more (NX a1 xV) (by simp)
def I1(bH:gC)(ids:List Nat)(iB:List l4)(ds:List Nat)(l:List ResultVar)(env:ai)(σ:Y):Option (U×Y):=match wT ids iB env σ with
 |none=>none
 |some (e,s)=>match IZ bH e s l with
  |none=>none
  |some a=>match iJ ds s a with
   |none=>none
   |some b=>match s.at ds with
    |none=>none
    |some dO=>some (b,dO)
def ri(G:cq)(fn:Func)(ho:U→Y→Prop):Exit→ai→Y→Prop:=λe env σ=>∃dx σ2,b8 G env σ dx σ2∧NQ G fn ho e dx σ2
variable {fn:Func}
theorem A.fin{P:Program}{N:Nat}{ids:List Nat}{bH:gC}(a1:ji P bH){env:ai}{σ σ2:Y}{R:U}{e:Exit}(iB:List l4)(he:(match e with|.ret|.normal=>true|_=>false)=true)(h:I1 bH ids iB σ2.ids fn.results.toList env σ=some (R,σ2)):
  ri ⟨P,N,ids⟩ fn (λa az=>a=R∧az=σ2) e env σ:=by
 simp only[I1]at h;split at h
 ·cases h
 ·rename_i aA dF hm;split at h
  ·cases h
  ·rename_i a aC;split at h
   ·cases h
   ·rename_i b V;split at h
    ·cases h
    ·rename_i dO W;cases h;refine⟨aA,dF,z8 hm,?_⟩;have key:∃cU x r az,sB ⟨P,N,ids⟩ aA (dF.freeze cU) fn.results.toList x∧hP (dF.freeze cU) x r∧(∀p∈az,(dF.freeze cU).get p.1=some p.2)∧(r=R∧az=σ2):=by
      refine⟨[],a,R,σ2,?_,?_,?_,rfl,rfl⟩
      ·rw[Y.FW];exact Y4 a1 aC
      ·rw[Y.FW];exact qZ V
      ·rw[Y.FW];exact(Y.oa W).1.mem
     cases e<;>first|exact key|cases he
theorem eu{P:Program}{c:Code}{hR:Y}{args:List U}{ho:U→Y→Prop}(be:P.funcs[f]?=some fn)(V:fn.body=some c)(mV:Nat.ble args.length fn.ntmps=true)
  (h:aY ⟨P,fn.ntmps,hR.ids⟩ c (ri ⟨P,fn.ntmps,hR.ids⟩ fn ho) (z6 0 args) hR):gi P f hR args ho:=
 gi.enter be V (Nat.le_of_ble_eq_true mV) λ_=>A.late h
end
end Go.Proofs.YtmnbolcmepihlaaGreat
