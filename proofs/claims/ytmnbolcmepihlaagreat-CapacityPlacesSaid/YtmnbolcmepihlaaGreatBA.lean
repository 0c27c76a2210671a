/- Several texts in one. No condition but those that stand in each. -/
import Derived.Test.YtmnbolcmepihlaaGreatAB
import Derived.Lib.SliceRun
import Derived.Laws.BytesString
import Derived.Scope
namespace Go.Proofs.YtmnbolcmepihlaaGreat
set_option linter.all false
open Go
section
def bnd{α β:Type}(o:Option α)(k:α→Option β):Option β:=match o with|none=>none|some a=>k a
def els{α β:Type}(o:Option α)(k:α→Option β)(z:Option β):Option β:=match o with|none=>z|some a=>k a
def chk{β:Type}(c:Bool)(k:Option β):Option β:=bif c then k else none
def jn{σ β:Type}(k:σ→Option β)(t:(σ→Option β)→Option β):Option β:=t k
def bJ{α σ β:Type}:List α→Nat→(Int→α→(σ→Option β)→σ→Option β)→(σ→Option β)→σ→Option β
 |[],_,_,K,s=>K s
 |x::r,j,B,K,s=>B (j:Int) x (bJ r (j+1) B K) s
def jd{σ β:Type}:Nat→Int→(Int→(σ→Option β)→σ→Option β)→(Int→σ→Option β)→σ→Option β
 |0,i,_,K,s=>K i s
 |n+1,i,B,K,s=>B i (jd n (i+1) B K) s
def iter{σ β:Type}(F:(σ→Option β)→σ→Option β):Nat→σ→Option β
 |0,_=>none
 |n+1,s=>F (iter F n) s
def fuel:Nat:=1099511627776
def whl{σ β:Type}(F:(σ→Option β)→σ→Option β)(s:σ):Option β:=iter F fuel s
def w64(n:Int):Int:=IntKind.wrap .i64 n
def elO{α:Type}(l:List α)(i:Int):Option α:=if 0≤i then l[i.toNat]? else none
def nu{α:Type}(l:List α)(i:Int)(x:α):Option (List α):=if 0≤i∧i<l.length then some (l.set i.toNat x)else none
def cap:Nat:=549755813888
def gn{α:Type}(l r:List α):Option (List α):=if l.length+r.length≤cap then some (l++r)else none
def lH{α:Type}(l:List α)(a b:Int):Option (List α):=if 0≤a∧a≤b∧b≤l.length then some ((l.take b.toNat).drop a.toNat)else none
def ixS(s:ByteArray)(n:Int):Option UInt8:=if 0≤n then s[n.toNat]? else none
theorem ahF{s:ByteArray}{n:Int}{b:UInt8}(h:ixS s n=some b):0≤n∧s[n.toNat]?=some b:=by
 unfold ixS at h;split at h
 ·exact⟨‹_›,h⟩
 ·cases h
variable {α β:Type}{r:β}
theorem aa{o:Option α}{k:α→Option β}(h:bnd o k=some r):∃a,o=some a∧k a=some r:=by
 cases o with
 |none=>cases h
 |some a=>exact⟨a,rfl,h⟩
variable {c:Bool}
theorem eE{k:Option β}(h:chk c k=some r):c=true∧k=some r:=by
 cases c with
 |false=>cases h
 |true=>exact⟨rfl,h⟩
theorem aA{x y:Option β}(h:(bif c then x else y)=some r):(c=true∧x=some r)∨(c=false∧y=some r):=by
 cases c with
 |false=>exact .inr ⟨rfl,h⟩
 |true=>exact .inl ⟨rfl,h⟩
variable {σ:Type}
theorem cO{k:σ→Option β}{t:(σ→Option β)→Option β}(h:jn k t=some r):∃J,J=k∧t J=some r:=⟨k,rfl,h⟩
theorem some_inj{a b:α}(h:some a=some b):a=b:=by injection h
variable {j:Nat}{l:List α}
theorem bh{b:Int→α→(σ→Option β)→σ→Option β}{k:σ→Option β}{s:σ}(h:bJ l j b k s=some r):
  ∃B K,B=b∧K=k∧bJ l j B K s=some r:=⟨b,k,rfl,rfl,h⟩
variable {i:Int}
theorem l6{n:Nat}{b:Int→(σ→Option β)→σ→Option β}{k:Int→σ→Option β}{s:σ}(h:jd n i b k s=some r):
  ∃B K,B=b∧K=k∧jd n i B K s=some r:=⟨b,k,rfl,rfl,h⟩
theorem fW{f:(σ→Option β)→σ→Option β}{s:σ}(h:whl f s=some r):∃F n,F=f∧iter F n s=some r:=⟨f,_,rfl,h⟩
variable {x:α}
theorem oA[Inhabited α](h:elO l i=some x):(0≤i∧i<l.length)∧el l i=x:=by
 unfold elO at h;split at h
 ·rename_i h0;obtain⟨h1,h2⟩:=List.getElem?_eq_some_iff.1 h;refine⟨⟨h0,by omega⟩,?_⟩;simp[el,List.getD_eq_getElem?_getD,h]
 ·cases h
theorem bu(h:l[j]?=some x):elO l (j:Int)=some x:=by
 unfold elO;rw[if_pos (by omega)];simpa using h
variable {m:List α}
theorem af2(h:nu l i x=some m):(0≤i∧i<l.length)∧l.set i.toNat x=m:=by
 unfold nu at h;split at h
 ·exact⟨‹_›,some_inj h⟩
 ·cases h
theorem abo{r:List α}(h:gn l r=some m):l.length+r.length≤cap∧l++r=m:=by
 unfold gn at h;split at h
 ·exact⟨‹_›,some_inj h⟩
 ·cases h
variable {a:Int}
theorem af3{b:Int}(h:lH l a b=some m):(0≤a∧a≤b∧b≤l.length)∧(l.take b.toNat).drop a.toNat=m:=by
 unfold lH at h;split at h
 ·exact⟨‹_›,some_inj h⟩
 ·cases h
structure En(α:Type) where
 enc:α→List AV
 sz:Nat
 hz:∀r,(enc r).length=sz
 one:∀r,(enc r).all AV.one=true
 cl:∀r,eO (enc r)=true
def ml{α:Type}(e:En α)(l:List α):List (List AV):=l.map e.enc
theorem eF(e:En α)(l:List α):(ml e l).length=l.length:=by simp[ml]
theorem ab1(e:En α)(l:List α):∀x∈ml e l,x.length=e.sz:=λx hx=>by
 obtain⟨r,_,rfl⟩:=List.mem_map.1 hx;exact e.hz r
theorem am1(e:En α)(l:List α):(ml e l).flatten.all AV.one=true:=akj e.enc e.one l
def ak:En Int:=⟨encI,1,λ_=>rfl,λ_=>rfl,λ_=>rfl⟩
def dW:En Bool:=⟨λb=>[.bool b],1,λ_=>rfl,λ_=>rfl,λ_=>rfl⟩
def eL{α:Type}(e:En α):En (List α):=⟨λl=>[.lst false (ml e l)],1,λ_=>rfl,λ_=>rfl,λ_=>rfl⟩
def Ix(sz:Nat)(xs:List (List AV))(i:Int)(row:List AV):Prop:=(∀e∈xs,e.length=sz)∧0≤i∧i<xs.length∧el xs i=row
theorem ix(e:En α)(h:elO l i=some x):Ix e.sz (ml e l) i (e.enc x):=by
 refine⟨ab1 e l,?_⟩;unfold elO at h;split at h
 ·rename_i h0;obtain⟨h1,h2⟩:=List.getElem?_eq_some_iff.1 h;exact⟨h0,by rw[eF];omega,by simp[ml,el,List.getD_eq_getElem?_getD,h]⟩
 ·cases h
def Ap(sz bytes:Nat)(xs ys zs:List (List AV)):Prop:=
 xs++ys=zs∧(∀e∈xs,e.length=sz)∧(∀e∈ys,e.length=sz)∧ys.flatten.all AV.one=true∧(xs.length+ys.length)*bytes≤140737488355328∧xs.length+ys.length≤maxLen
theorem ap(e:En α){bytes:Nat}(hb:bytes≤256){r:List α}(h:gn l r=some m):Ap e.sz bytes (ml e l) (ml e r) (ml e m):=by
 obtain⟨h1,h2⟩:=abo h;unfold cap at h1;refine⟨by rw[←h2];simp[ml],ab1 e l,ab1 e r,am1 e r,?_,?_⟩
 ·rw[eF,eF];exact Nat.le_trans (Nat.mul_le_mul_left _ hb) (by omega)
 ·rw[eF,eF];unfold maxLen;omega
def St(sz:Nat)(xs:List (List AV))(i:Int)(off:Nat)(ca:List AV)(zs:List (List AV)):Prop:=
 Ix sz xs i (el xs i)∧zs=xs.set i.toNat (cG (el xs i) off ca)
theorem st[Inhabited α](e:En α){y:α}{off:Nat}{ca:List AV}(hx:elO l i=some x)(h:nu l i y=some m)(hc:cG (e.enc x) off ca=e.enc y):St e.sz (ml e l) i off ca (ml e m):=by
 have h1:=ix e hx;obtain⟨h2,h3,h4,h5⟩:=h1;refine⟨⟨h2,h3,h4,rfl⟩,?_⟩;rw[h5,hc,←(af2 h).2];simp[ml,List.map_set]
def Sl(sz:Nat)(xs:List (List AV))(a b:Int)(zs:List (List AV)):Prop:=(∀e∈xs,e.length=sz)∧(0≤a∧a≤b∧b≤xs.length)∧(xs.take b.toNat).drop a.toNat=zs
theorem sl(e:En α){b:Int}(h:lH l a b=some m):Sl e.sz (ml e l) a b (ml e m):=by
 obtain⟨h1,h2⟩:=af3 h;exact⟨ab1 e l,by rw[eF];exact h1,by rw[←h2];simp[ml,List.map_drop,List.map_take]⟩
def vI(k:IntKind)(n:Int):AV:=.int k n
def vB(b:Bool):AV:=.bool b
def Lk(P:Program)(E:Nat)(k:IntKind)(aL:List (AV×AV))(n:Int)(a:AV)(b:Bool):Prop:=∃(α:Type) (l:List (Int×α)) (enc:α→AV) (z:α),
 aL=bU k enc l∧a=enc ((aY l n).getD z)∧b=(aY l n).isSome∧(∀w,∃v,(zeroValue E).run P w=.ok v w∧∀I,aB I (enc z) v)
def Mu(k:IntKind)(aL:List (AV×AV))(n:Int)(v:AV)(gQ:List (AV×AV)):Prop:=∃(α:Type) (l:List (Int×α)) (enc:α→AV) (x:α),aL=bU k enc l∧v=enc x∧(enc x).closed=true∧gQ=bU k enc (bN l n x)
def Lm(k:IntKind)(aL:List (AV×AV))(n:Int):Prop:=∃(α:Type) (l:List (Int×α)) (enc:α→AV),aL=bU k enc l∧n=l.length
variable {enc:α→AV}{k:IntKind}
theorem lk{P:Program}{E:Nat}(l:List (Int×α))(n:Int)(z:α)(hz:∀w,∃v,(zeroValue E).run P w=.ok v w∧∀I,aB I (enc z) v):Lk P E k (bU k enc l) n (enc ((aY l n).getD z)) (aY l n).isSome:=⟨α,l,enc,z,rfl,rfl,rfl,hz⟩
theorem mu(l:List (Int×α))(n:Int)(x:α)(hc:(enc x).closed=true):Mu k (bU k enc l) n (enc x) (bU k enc (bN l n x)):=⟨α,l,enc,x,rfl,rfl,hc,rfl⟩
theorem lm(l:List (Int×α)):Lm k (bU k enc l) (l.length:Int):=⟨α,l,enc,rfl,rfl⟩
def LBn:Nat→List (List AV)→Prop
 |0,xs=>xs.length≤maxLen
 |n+1,xs=>xs.length≤maxLen∧∀e∈xs,∀f ys,AV.lst f ys∈e→LBn n ys
def LB(xs:List (List AV)):Prop:=∀n,LBn n xs
theorem LB.len{xs:List (List AV)}(h:LB xs):xs.length≤maxLen:=h 0
theorem LB.el{e:En α}(h:LB (ml e l))(hx:elO l i=some x){k:Nat}{f:Bool}{ys:List (List AV)}(hy:(e.enc x)[k]?=some (.lst f ys)):LB ys:=λn=>by
 refine(h (n+1)).2 (e.enc x) ?_ f ys (List.mem_of_getElem? hy);unfold elO at hx;split at hx
 ·exact List.mem_map.2 ⟨x,List.mem_of_getElem? hx,rfl⟩
 ·cases hx
theorem cH{n:Int}(h1 : -9223372036854775808≤n)(h2:n≤9223372036854775807):w64 n=n:=aau h1 h2
theorem inc{e:En α}(h:l[j]?=some x)(hb:LB (ml e l)):AV.int .i64 (IntKind.wrap .i64 ((j:Int)+1))=.int .i64 ((j+1:Nat):Int):=by
 obtain⟨h1,_⟩:=List.getElem?_eq_some_iff.1 h;have hb:=hb.len;rw[eF]at hb;unfold maxLen at hb;rw[show IntKind.wrap .i64 ((j:Int)+1)=(j:Int)+1 from aau (by omega) (by omega)];rfl
theorem wK{hi:Int}(h0 : -9223372036854775808≤i)(h:i<hi)(hb:hi≤9223372036854775807):AV.int .i64 (IntKind.wrap .i64 (i+1))=.int .i64 (i+1):=by
 rw[show IntKind.wrap .i64 (i+1)=i+1 from aau (by omega) (by omega)]
theorem lnE(e:En α)(l:List α):AV.int .i64 ((ml e l).length:Int)=.int .i64 (l.length:Int):=by rw[eF]
def yP{α:Type}(cf:α→α→Int)(x:α):List α→List α
 |[]=>[x]
 |y::r=>if cf y x<0 then y::yP cf x r else x::y::r
def lI{α:Type}(cf:α→α→Int):List α→List α
 |[]=>[]
 |x::r=>yP cf x (lI cf r)
def wL{α:Type}(cf:α→α→Int):List α→Bool
 |a::b::r=>decide (cf a b<0)&&wL cf (b::r)
 |_=>true
def jO{α:Type}(cf:α→α→Int)(l:List α):Option (List α):=bif wL cf (lI cf l)&&decide (l.length<4611686018427387904)then some (lI cf l)else none
theorem wM{α:Type}(cf:α→α→Int)(x:α):∀l:List α,(yP cf x l).Perm (x::l)
 |[]=>.refl _
 |y::r=>by
  simp only[yP];split
  ·exact((wM cf x r).cons y).trans (.swap x y r)
  ·exact .refl _
theorem kU{α:Type}(cf:α→α→Int):∀l:List α,(lI cf l).Perm l
 |[]=>.refl _
 |x::r=>(wM cf x _).trans ((kU cf r).cons x)
theorem ry{α:Type}{cf:α→α→Int}(ht:∀a b c,cf a b<0→cf b c<0→cf a c<0):∀{l:List α},wL cf l=true→l.Pairwise λa b=>cf a b<0
 |[],_=>.nil
 |[x],_=>by simp
 |a::b::r,h=>by
  simp only[wL,Bool.and_eq_true,decide_eq_true_eq]at h;have ih:=ry ht h.2;rw[List.pairwise_cons];refine⟨λz hz=>?_,ih⟩;rcases List.mem_cons.1 hz with rfl|hz
  ·exact h.1
  ·exact ht _ _ _ h.1 ((List.pairwise_cons.1 ih).1 z hz)
theorem aeC{cf:α→α→Int}(ht:∀a b c,cf a b<0→cf b c<0→cf a c<0)(h:jO cf l=some m):m.Perm l∧(m.Pairwise λa b=>cf a b<0)∧l.length<4611686018427387904:=by
 unfold jO at h;cases hb:(wL cf (lI cf l)&&decide (l.length<4611686018427387904))with
 |false=>rw[hb]at h;cases h
 |true=>
  rw[hb]at h;cases h
  simp only[Bool.and_eq_true,decide_eq_true_eq]at hb;exact⟨kU cf l,ry ht hb.1,hb.2⟩
theorem yg{α:Type}{cf:α→α→Int}:∀{d m:List α},d.Perm m→(m.Pairwise λa b=>cf a b<0)→(d.Pairwise λa b=>¬cf b a<0)→d=m
 |[],m,hp,_,_=>hp.symm.eq_nil.symm
 |x::d,[],hp,_,_=>by have:=hp.eq_nil;cases this
 |x::d,y::m,hp,h1,h2=>by
  rw[List.pairwise_cons]at h1 h2;have hx:x=y:=by
   refine Classical.byContradiction λhne=>?_;have a1:x∈m:=by
    have:=hp.mem_iff.1 (List.mem_cons_self (a:=x) (l:=d));rcases List.mem_cons.1 this with e|e
    ·exact absurd e hne
    ·exact e
   have a2:y∈d:=by
    have:=hp.mem_iff.2 (List.mem_cons_self (a:=y) (l:=m));rcases List.mem_cons.1 this with e|e
    ·exact absurd e.symm hne
    ·exact e
   exact h2.1 y a2 (h1.1 x a1)
  subst hx;rw[yg (List.Perm.cons_inv hp) h1.2 h2.2]
def cZ{α:Type}:List (α→Int)→α→α→Int
 |[],_,_=>0
 |k::r,a,b=>if k a<k b then -1 else if k b<k a then 1 else cZ r a b
theorem gq(k:α→Int)(r:List (α→Int))(a b:α):cZ (k::r) a b<0↔k a<k b∨k a=k b∧cZ r a b<0:=by
 simp only[cZ];split
 ·rename_i h;exact⟨λ_=>.inl h,λ_=>by omega⟩
 ·split
  ·rename_i h1 h2;exact⟨λh=>by omega,λh=>by omega⟩
  ·rename_i h1 h2;have:k a=k b:=by omega
   exact⟨λh=>.inr ⟨this,h⟩,λh=>by rcases h with h|h;exact absurd h h1;exact h.2⟩
theorem yh{α:Type}:∀(l:List (α→Int)) (a:α),¬cZ l a a<0
 |[],_=>by simp[cZ]
 |k::r,a=>by rw[gq];intro h;rcases h with h|h;omega;exact yh r a h.2
theorem mh{α:Type}:∀(l:List (α→Int)) (a b c:α),cZ l a b<0→cZ l b c<0→cZ l a c<0
 |[],_,_,_=>by simp[cZ]
 |k::r,a,b,c=>by
  simp only[gq];intro h1 h2;rcases h1 with h1|h1<;>rcases h2 with h2|h2
  ·exact .inl (by omega)
  ·exact .inl (by omega)
  ·exact .inl (by omega)
  ·exact .inr ⟨by omega,mh r a b c h1.2 h2.2⟩
theorem yj{α:Type}:∀(l:List (α→Int)) (a b c:α),¬cZ l a b<0→¬cZ l b c<0→¬cZ l a c<0
 |[],_,_,_=>by simp[cZ]
 |k::r,a,b,c=>by
  simp only[gq];intro h1 h2 h;rcases h with h|⟨h,h3⟩
  ·by_cases e:k a<k b
   ·exact h1 (.inl e)
   ·exact h2 (.inl (by omega))
  ·by_cases e1:k a<k b
   ·exact h1 (.inl e1)
   by_cases e2:k b<k c
   ·exact h2 (.inl e2)
   have e3:k a=k b:=by omega
   have e4:k b=k c:=by omega
   exact yj r a b c (λq=>h1 (.inr ⟨e3,q⟩)) (λq=>h2 (.inr ⟨e4,q⟩)) h3
end
section
inductive Kd where
 |int (k:IntKind)
 |bool
 |str
 |slice (E sz bytes:Nat) (zs:List Value)
 |map (K E:Nat) (k:IntKind)
 |struct (zs:List Value) (pl:List (Nat×Nat)) (ags:List Bool)
 |oth
structure TI where
 sz:Nat
 ag:Bool
 zs:Option (List Value)
 kd:Kd
def kV(P:Program)(T:Nat):Kd→Prop
 |.int k=>P.underlying T=some (.int k)
 |.bool=>P.underlying T=some .bool
 |.str=>P.underlying T=some .string
 |.slice E sz bytes zs=>SlS P T E sz∧gL P T E sz bytes∧iP P T E sz zs
 |.map K E k=>jD P T K E k
 |.struct zs pl ags=>iz P T zs pl∧(∀f off sz,pl[f]?=some (off,sz)→dS P T f off)∧∀f off sz ag,pl[f]?=some (off,sz)→ags[f]?=some ag→cN P T f off sz ag
 |.oth=>True
structure cL(P:Program)(T:Nat)(i:TI):Prop where
 ty:TyS P T i.sz i.ag
 ze:∀zs,i.zs=some zs→∀w,∃z,(zeroValue T).run P w=.ok z w∧z.cells=zs.toArray
 kd:kV P T i.kd
abbrev Tb:=List (Nat×TI)
def Tb.get:Tb→Nat→Option TI
 |[],_=>none
 |(k,v)::r,n=>bif Nat.beq k n then some v else Tb.get r n
def fm(P:Program):Tb→Prop
 |[]=>True
 |(k,v)::r=>cL P k v∧fm P r
theorem fm.get{P:Program}:∀{tb:Tb} {T:Nat} {i:TI},fm P tb→tb.get T=some i→cL P T i
 |[],_,_,_,h=>by simp[Tb.get]at h
 |(k,v)::r,T,i,hh,h=>by
  simp only[Tb.get]at h;cases hk:Nat.beq k T<;>rw[hk]at h
  ·exact fm.get hh.2 h
  ·simp only[cond_true,Option.some.injEq]at h;have:k=T:=by simpa using hk
   subst this h;exact hh.1
structure Wld(P:Program)(tb:Tb):Prop where
 mix:P.follows .mixedOrders=true
 tys:fm P tb
structure aO(P:Program)(f:FuncId):Prop where
 h:∀(args:Array Value) (w:World),(callFunc f args).run P w=.ok (.enter f args) w
def aeD:br→Prop
 |.slice _ _ xs _ _=>∀e∈xs,lu e=true
 |_=>False
def rO:Sto→Prop
 |[]=>True
 |p::r=>aeD p.2∧rO r
def am2(a:AV):Prop:=∀(I:Imm) (β:Nat→Value) v,Rep I β a v→∃p n c,v=.slice (some p) n c
abbrev Obs:=List AV×Sto
inductive Stp where
 |y (R:List Nat) (av:AV)
 |v (d:Nat) (ob:br) (av:AV)
 |e (M news:List Nat) (av:AV) (σ':Sto)
def cz(G:Gl)(o:Oper)(env:Env)(σ:Sto):Stp→Prop
 |.y R av=>Yields G o env.ev σ [] R av
 |.v d ob av=>G.ids.contains d=false∧Yields G o env.ev ((d,ob)::σ) [d] [d] av
 |.e M news av σ'=>dU G o env.ev σ M news (λa s=>a=av∧s=σ')∧news.all (λd=>!G.ids.contains d)=true
inductive Hint(P:Program):Type where
 |au
 |al (d:Nat)
 |to (h:Hint P) (a b:AV) (e:a=b)
 |ix (sz:Nat) (xs:List (List AV)) (i:Int) (row:List AV) (pf:Ix sz xs i row)
 |lo (d sz:Nat) (xs:List (List AV)) (i:Int) (off:Nat) (row:List AV) (pf:Ix sz xs i row)
 |so (d sz:Nat) (xs:List (List AV)) (i:Int) (off:Nat) (ca:List AV) (zs:List (List AV)) (pf:St sz xs i off ca zs) (k:Nat) (hk:(k:Int)≤i)
 |rf (f:FuncId) (caps avs:List AV) (r:AV) (pf:RO P f [] (avs++caps) r) (hc:aO P f)
 |ro (raw:Nat) (f:FuncId) (σs:Sto) (avs:List AV) (r:AV) (pf:RO P f σs avs r) (hc:aO P f)
 |le (ds:List Nat) (f:FuncId) (avs:List AV) (r:AV) (pf:RO P f [] avs r) (hc:aO P f)
 |dc (news:List Nat) (f:FuncId) (σc:Sto) (avs:List AV) (r:AV) (σ2:Sto) (pf:b9 P f σc avs (λa σ'=>a=r∧σ'=σ2)) (hc:aO P f)
 |dl (ds news:List Nat) (f:FuncId) (avs:List AV) (r:AV) (σ2:Sto) (pf:b9 P f [] avs (λa σ'=>a=r∧σ'=σ2)) (hc:aO P f) (fl:rO σ2)
 |gs (eff:Bool) (ex:Obs) (f:List Nat→Op→Env→Sto→Option (Stp×Obs)) (pf:∀(o:Oper) (N:Nat) (ids:List Nat) (env:Env) (σ:Sto) (s:Stp) (ob:Obs),f ids o.op env σ=some (s,ob)→ob=ex→cz ⟨P,N,ids⟩ o env σ s)
 |ap (d2 sz bytes:Nat) (xs ys zs:List (List AV)) (pf:Ap sz bytes xs ys zs)
 |ws (d2 sz:Nat) (xs:List (List AV)) (a:Int) (zs:List (List AV)) (pf:Sl sz xs a xs.length zs)
 |sl (sz:Nat) (xs:List (List AV)) (a b:Int) (zs:List (List AV)) (pf:Sl sz xs a b zs)
 |qr (n:Int) (pf:n≠0)
 |sh (n:Int) (pf:0≤n)
 |is (s:ByteArray) (n:Int) (b:UInt8) (pf:0≤n∧s[n.toNat]?=some b)
 |lk (E:Nat) (k:IntKind) (aL:List (AV×AV)) (n:Int) (a:AV) (b:Bool) (pf:Lk P E k aL n a b)
 |mu (k:IntKind) (aL:List (AV×AV)) (n:Int) (v:AV) (gQ:List (AV×AV)) (pf:Mu k aL n v gQ)
 |lm (k:IntKind) (aL:List (AV×AV)) (n:Int) (pf:Lm k aL n)
 |sq (neg:Bool) (T:Nat) (a b:AV) (r:Bool) (pf:∀(x y:Operand) w,(do eqGuard (bif neg then .neq else .eql) T x y (valOf a) (valOf b);binOp (bif neg then .neq else .eql) T (valOf a) (valOf b):Sem Value).run P w=.ok (.bool r) w)
 |sn (neg:Bool) (a:AV) (pf:am2 a)
 |s3 (sz:Nat) (xs:List (List AV)) (a b:Int) (zs:List (List AV)) (pf:Sl sz xs a b zs)
 |pu (T T':Nat) (a r:AV) (pf:∀(o:Oper) (N:Nat) (ids:List Nat) (ev:Operand→AV) (σ:Sto) (x:Operand),o.op=.convert T T' x→ev x=a→Yields ⟨P,N,ids⟩ o ev σ [] [] r)
 |pb (op:BinOp) (T:Nat) (a b r:AV) (pf:∀(o:Oper) (N:Nat) (ids:List Nat) (ev:Operand→AV) (σ:Sto) (x y:Operand) (T':Nat),o.op=.binOp op T x y T'→ev x=a→ev y=b→Yields ⟨P,N,ids⟩ o ev σ [] [] r)
def Hint.exp{P:Program}:Hint P→Obs
 |.au|.al _=>([],[])
 |.to h a _ _=>(a::h.exp.1,h.exp.2)
 |.ix _ xs i _ _=>([.lst false xs,.int .i64 i],[])
 |.lo d sz xs i off _ _=>([.lst false xs,.ptr d (i.toNat*sz+off)],[])
 |.so d sz xs i off ca _ _ _ _=>([.lst false xs,.ptr d (i.toNat*sz+off),.agg ca],[])
 |.rf f caps avs _ _ _=>(.fn f caps::avs,[])
 |.ro _ f σs avs _ _ _=>(.fn f []::avs,σs)
 |.le _ f avs _ _ _=>(.fn f []::avs,[])
 |.dc _ f σc avs _ _ _ _=>(.fn f []::avs,σc)
 |.dl _ _ f avs _ _ _ _ _=>(.fn f []::avs,[])
 |.gs _ ex _ _=>ex
 |.ap _ _ _ xs ys _ _=>([.lst false xs,.lst false ys],[])
 |.ws _ _ xs a _ _=>([.lst false xs,.int .i64 a],[])
 |.sl _ xs a b _ _=>([.lst false xs,.int .i64 a,.int .i64 b],[])
 |.qr n _|.sh n _=>([.int .i64 n],[])
 |.is s n _ _=>([.str s,.int .i64 n],[])
 |.lk _ _ aL n _ _ _=>([.int .i64 n],[(0,.map 0 0 aL)])
 |.mu _ aL n v _ _=>([.int .i64 n,v],[(0,.map 0 0 aL)])
 |.lm _ aL _ _=>([],[(0,.map 0 0 aL)])
 |.sq _ _ a b _ _=>([a,b],[])
 |.sn _ a _=>([a],[])
 |.s3 _ xs a b _ _=>([.lst false xs,.int .i64 a,.int .i64 b,.int .i64 b],[])
 |.pu _ _ a _ _=>([a],[])
 |.pb _ _ a b _ _=>([a,b],[])
mutual
def lJ:AV→AV
 |.lst true xs=>.lst false xs
 |.bI=>.lst false []
 |.agg cs=>.agg (yQ cs)
 |a=>a
def yQ:List AV→List AV
 |[]=>[]
 |x::r=>lJ x::yQ r
end
mutual
theorem sH{σ:Sto}:∀a:AV,eT σ a (lJ a)
 |.lst true xs=>.full xs
 |.bI=>.nil false
 |.agg cs=>.agg (vX cs)
 |.lst false _|.dM|.undef|.int _ _|.bool _|.str _|.cV _|.lC|.sl0|.own _|.ptr _ _|.bX _|.cfn _ _|.tup _|.fn _ _|.hnd _ _|.mpf _|.arr _=>.refl _
theorem vX{σ:Sto}:∀l:List AV,fM σ l (yQ l)
 |[]=>.nil
 |x::r=>.cons (sH x) (vX r)
end
variable {G:Gl}{o:Oper}{σ:Sto}
theorem Yields.off{ev:Operand→AV}{mat R:List Nat}{av:AV}(h:Yields G o (λx=>lJ (ev x)) σ mat R av):Yields G o ev σ mat R av:=
 λσ' cx I β w ρ hR hw hm hop=>h σ' cx I β w ρ hR hw hm λx hx=>(sH (ev x)).rep hw _ (hop x hx)
theorem dU.off{ev:Operand→AV}{M news:List Nat}{Φ:AV→Sto→Prop}(h:dU G o (λx=>lJ (ev x)) σ M news Φ):dU G o ev σ M news Φ:=
 λcx I β w ρ hw hop=>h cx I β w ρ hw λx hx=>(sH (ev x)).rep hw _ (hop x hx)
def acu:List (Nat×AV)→List (Nat×AV)
 |[]=>[]
 |p::r=>(p.1,lJ p.2)::acu r
theorem yR{ev:Operand→AV}:∀l:List (Nat×Operand),acu (l.map λp=>(p.1,ev p.2))=l.map λp=>(p.1,lJ (ev p.2))
 |[]=>rfl
 |p::r=>by simp only[List.map_cons,acu,yR r]
mutual
def eB(kp:List Nat)(σ:Sto):AV→Option AV
 |.own d=>bif kp.contains d then some (.own d)else match σ.get d with
  |some (.slice _ _ xs _ true)=>some (.lst false xs)
  |some (.win _ _ xs)=>some (.lst false xs)
  |_=>none
 |.bX d=>bif kp.contains d then some (.bX d)else match σ.get d with
  |some (.jA _ _ aL)=>some (.mpf aL)
  |_=>some (.bX d)
 |.bI=>some (.lst false [])
 |.sl0=>some (.lst false [])
 |.lst true xs=>some (.lst false xs)
 |.agg cs=>match mF kp σ cs with|none=>none|some l=>some (.agg l)
 |.tup cs=>match mF kp σ cs with|none=>none|some l=>some (.tup l)
 |.fn f cs=>match mF kp σ cs with|none=>none|some l=>some (.fn f l)
 |a=>some a
def mF(kp:List Nat)(σ:Sto):List AV→Option (List AV)
 |[]=>some []
 |x::r=>match eB kp σ x with
  |none=>none
  |some a=>match mF kp σ r with
   |none=>none
   |some l=>some (a::l)
end
mutual
theorem iC{kp:List Nat}{σ:Sto}:∀{a b:AV},eB kp σ a=some b→eT σ a b
 |.own d,b,h=>by
  simp only[eB]at h;cases hk:kp.contains d with
  |true=>rw[hk]at h;simp only[cond_true,Option.some.injEq]at h;subst h;exact .refl _
  |false=>
   rw[hk]at h;simp only[cond_false]at h;split at h
   ·rename_i hd;simp only[Option.some.injEq]at h;subst h;exact .own hd
   ·rename_i hd;simp only[Option.some.injEq]at h;subst h;exact .win hd
   ·cases h
 |.bX d,b,h=>by
  simp only[eB]at h;cases hk:kp.contains d with
  |true=>rw[hk]at h;simp only[cond_true,Option.some.injEq]at h;subst h;exact .refl _
  |false=>
   rw[hk]at h;simp only[cond_false]at h;split at h
   ·rename_i hd;simp only[Option.some.injEq]at h;subst h;exact .jA hd
   ·cases h;exact .refl _
 |.mpf _,b,h=>by simp only[eB,Option.some.injEq]at h;subst h;exact .refl _
 |.arr _,b,h=>by simp only[eB,Option.some.injEq]at h;subst h;exact .refl _
 |.bI,b,h=>by simp only[eB,Option.some.injEq]at h;subst h;exact .nil false
 |.sl0,b,h=>by simp only[eB,Option.some.injEq]at h;subst h;exact .sl0
 |.lst true xs,b,h=>by simp only[eB,Option.some.injEq]at h;subst h;exact .full xs
 |.agg cs,b,h=>by
  simp only[eB]at h;split at h
  ·cases h
  ·rename_i l hl;simp only[Option.some.injEq]at h;subst h;exact .agg (nv hl)
 |.tup cs,b,h=>by
  simp only[eB]at h;split at h
  ·cases h
  ·rename_i l hl;simp only[Option.some.injEq]at h;subst h;exact .tup (nv hl)
 |.fn f cs,b,h=>by
  simp only[eB]at h;split at h
  ·cases h
  ·rename_i l hl;simp only[Option.some.injEq]at h;subst h;exact .fn (nv hl)
 |.lst false _,b,h|.dM,b,h|.undef,b,h|.int _ _,b,h|.bool _,b,h|.str _,b,h|.cV _,b,h|.lC,b,h|.ptr _ _,b,h|.cfn _ _,b,h|.hnd _ _,b,h=>by
  simp only[eB,Option.some.injEq]at h;subst h;exact .refl _
theorem nv{kp:List Nat}{σ:Sto}:∀{a b:List AV},mF kp σ a=some b→fM σ a b
 |[],b,h=>by simp only[mF,Option.some.injEq]at h;subst h;exact .nil
 |x::r,b,h=>by
  simp only[mF]at h;split at h
  ·cases h
  ·rename_i a ha;split at h
   ·cases h
   ·rename_i l hl;simp only[Option.some.injEq]at h;subst h
    exact .cons (iC ha) (nv hl)
end
def Sto.at(σ:Sto):List Nat→Option Sto
 |[]=>some []
 |d::r=>match σ.get d with
  |none=>none
  |some o=>match Sto.at σ r with
   |none=>none
   |some l=>some ((d,o)::l)
theorem Sto.iQ{σ:Sto}:∀{ds:List Nat} {l:Sto},σ.at ds=some l→pG σ l∧l.ids=ds
 |[],l,h=>by simp only[Sto.at,Option.some.injEq]at h;subst h;exact⟨trivial,rfl⟩
 |d::r,l,h=>by
  simp only[Sto.at]at h;split at h
  ·cases h
  ·rename_i o ho;split at h
   ·cases h
   ·rename_i m hm;simp only[Option.some.injEq]at h;subst h
    obtain⟨h1,h2⟩:=Sto.iQ hm;exact⟨⟨ho,h1⟩,by simp only[Sto.ids,List.map_cons]at h2 ⊢;rw[h2]⟩
def nL(f:AV→Option AV):List AV→Option (List AV)
 |[]=>some []
 |x::r=>match f x with
  |none=>none
  |some a=>match nL f r with
   |none=>none
   |some l=>some (a::l)
def oq:Nat→Sto→AV→Option AV
 |0,_,_=>none
 |n+1,σ,a=>match a with
  |.own d=>(match σ.get d with|some (.slice _ _ xs _ _)=>some (.lst false xs)|some (.win _ _ xs)=>some (.lst false xs)|_=>none)
  |.ptr d p=>(match σ.get d with
   |some (.cells _ cs)=>(match nL (oq n σ) (cs.drop p)with|none=>none|some l=>some (.cV l))
   |_=>none)
  |.bI=>some (.lst false [])
  |.lst true xs=>some (.lst false xs)
  |.agg cs=>(match nL (oq n σ) cs with|none=>none|some l=>some (.agg l))
  |.tup cs=>(match nL (oq n σ) cs with|none=>none|some l=>some (.tup l))
  |.fn f cs=>(match nL (oq n σ) cs with|none=>none|some l=>some (.fn f l))
  |.bX d=>(match σ.get d with|some (.map _ _ aL)=>some (.mpf aL)|some (.jA _ _ aL)=>some (.mpf aL)|some (.dI _ _ _ _ aL)=>some (.mpf aL)|_=>none)
  |.hnd _ _=>none
  |.sl0=>some (.lst false [])
  |a=>some a
theorem oB{f:AV→Option AV}{I J:Imm}{β:Nat→Value}(hf:∀a b,f a=some b→∀v,Rep I β a v→aB J b v):∀{l m:List AV},nL f l=some m→∀vs,aW I β l vs→aS J m vs
 |[],m,h,vs,hr=>by simp only[nL,Option.some.injEq]at h;subst h;exact hr
 |x::r,m,h,vs,hr=>by
  simp only[nL]at h;split at h
  ·cases h
  ·rename_i a ha;split at h
   ·cases h
   ·rename_i l hl;simp only[Option.some.injEq]at h;subst h
    simp only[aW]at hr;obtain⟨u,us,rfl,h1,h2⟩:=hr;exact⟨u,us,rfl,hf x a ha u h1,oB hf hl us h2⟩
theorem yS{G:Gl}{cx:Cx}{I:Imm}{β:Nat→Value}{σ:Sto}{w:World}(hw:aX G cx I β σ w):∀(n:Nat) (a b:AV),oq n σ a=some b→∀v,Rep I β a v→aB (snap w) b v
 |0,a,b,h,_,_=>by cases h
 |n+1,a,b,h,v,hr=>by
  have hle:aQ I (snap w):=hw.afT;have ih:=yS hw n;cases a with
  |own d=>
   simp only[oq]at h;split at h
   ·rename_i T sz xs k fz hd;cases h;simp only[Rep]at hr;obtain⟨rfl,hs⟩:=hr;have hob:=hw.bB d _ hd;simp only[aj]at hob;simp only[aB];rcases hob with q|⟨q,rfl,_⟩|⟨b,cap,arr,q1,q2,q3,q4,q5,q6,q7,_⟩
    ·rw[q]at hs;simp[fP]at hs
    ·exact⟨none,0,q,by simp,by simp[maxLen],by simp,.inl rfl⟩
    ·refine⟨_,cap,q1,q2,q3,by simp,.inr ⟨b,0,rfl,?_⟩⟩;refine l9 xs 0 _ (ef hle _ _ q6) λj v hv=>?_;rw[Nat.zero_add];rw[List.getElem?_take]at hv;split at hv
     ·simp only[snap,World.cell?,q4];simpa using hv
     ·cases hv
   ·rename_i T sz xs hd;cases h;exact cM hle _ _ (by simpa only[Rep]using hw.win hd hr)
   ·cases h
  |ptr d p=>
   simp only[oq]at h;split at h
   ·rename_i T cs hd;split at h
    ·cases h
    ·rename_i l hl;cases h;simp only[Rep]at hr;obtain⟨bb,hb,rfl⟩:=hr;obtain⟨arr,q1,q2,q3,_⟩:=aX.box hw hd hb;simp only[aB];refine⟨bb,p,rfl,?_⟩;have:=oB (J:=snap w) ih hl _ (oO p _ _ q3);refine s5 l p _ this λj v hv=>?_;simp only[snap,World.cell?,q2];simpa using hv
   ·cases h
  |bI=>cases h;simp only[Rep,aB]at hr ⊢;exact⟨none,0,hr,by simp,by simp[maxLen],by simp,by simp⟩
  |lst f xs=>
   have h1:aB (snap w) (.lst f xs) v:=cM hle _ _ (by simpa only[Rep]using hr);cases f with
   |false=>cases h;exact h1
   |true=>
    cases h;simp only[aB]at h1 ⊢;obtain⟨a,c,h2,h3,h4,_,h5⟩:=h1;exact⟨a,c,h2,h3,h4,by simp,h5⟩
  |agg cs=>
   simp only[oq]at h;split at h
   ·cases h
   ·rename_i l hl;cases h
    simp only[Rep]at hr;obtain⟨vs,rfl,hr⟩:=hr;simp only[aB];exact⟨vs,rfl,oB ih hl _ hr⟩
  |tup cs=>
   simp only[oq]at h;split at h
   ·cases h
   ·rename_i l hl;cases h
    simp only[Rep]at hr;obtain⟨vs,rfl,hr⟩:=hr;simp only[aB];exact⟨vs,rfl,oB ih hl _ hr⟩
  |fn f cs=>
   simp only[oq]at h;split at h
   ·cases h
   ·rename_i l hl;cases h
    simp only[Rep]at hr;obtain⟨vs,rfl,hr⟩:=hr;simp only[aB];exact⟨vs,rfl,oB ih hl _ hr⟩
  |bX d=>
   have own:∀{r:Nat} {es:Array MapEntry} {clock:Nat} {aL:List (AV×AV)},β d=.map (some r)→w.heap[r]?=some (.map es clock)→cW I aL es.toList→gv es clock→Rep I β (.bX d) v→aB (snap w) (.mpf aL) v:=by
    intro r es clock aL h1 h2 h3 h4 h5;simp only[Rep]at h5;obtain⟨rfl,_⟩:=h5;simp only[aB];exact⟨r,es,clock,h1,by simp only[snap,h2],eo hle _ _ h3,h4⟩
   have isM:jS (β d)=true:=by simp only[Rep]at hr;obtain⟨rfl,q⟩:=hr;exact q
   simp only[oq]at h;split at h
   ·rename_i K E aL hd;cases h;have hob:=hw.bB d _ hd;simp only[aj]at hob;rcases hob with q|⟨r,es,clock,q1,q2,q3,_,_,q6⟩
    ·rw[q]at isM;simp[jS]at isM
    ·exact own q1 q2 q3 q6 hr
   ·rename_i K E aL hd;cases h;have hob:=hw.bB d _ hd;simp only[aj]at hob;rcases hob with q|⟨r,es,clock,q1,q2,q3,_,q6⟩
    ·rw[q]at isM;simp[jS]at isM
    ·obtain⟨es',clock',h4,h5⟩:=hw.dO r _ q2;obtain⟨rfl,rfl⟩:=sZ h5;exact own q1 h4 q3 q6 hr
   ·rename_i es clock K E aL hd;cases h;have hob:=hw.bB d _ hd;simp only[aj]at hob;rcases hob with q|⟨r,q1,q2,q3,_,_,q6⟩
    ·rw[q]at isM;simp[jS]at isM
    ·exact own q1 q2 q3 q6 hr
   ·cases h
  |mpf aL=>cases h;exact cM hle _ _ (by simpa only[Rep]using hr)
  |arr xs=>cases h;exact cM hle _ _ (by simpa only[Rep]using hr)
  |hnd k d=>cases h
  |sl0=>
   cases h;simp only[Rep,aB]at hr ⊢;obtain⟨a,c,hr,hc⟩:=hr;exact⟨some a,c,hr,by simp,hc,by simp,by simp⟩
  |cfn f cs=>cases h;exact cM hle _ _ (by simpa only[Rep]using hr)
  |dM=>cases h;simp[aB]
  |undef=>cases h;exact cM hle _ _ (by simpa only[Rep]using hr)
  |int k n=>cases h;exact cM hle _ _ (by simpa only[Rep]using hr)
  |bool b=>cases h;exact cM hle _ _ (by simpa only[Rep]using hr)
  |str s=>cases h;exact cM hle _ _ (by simpa only[Rep]using hr)
  |cV cs=>cases h;exact cM hle _ _ (by simpa only[Rep]using hr)
  |lC=>cases h;exact cM hle _ _ (by simpa only[Rep]using hr)
def uU(n:Nat)(σ:Sto)(a:AV):Option AV:=match oq n σ a with
 |some (.fn f l)=>some (.cfn f l)
 |x=>x
variable {I:Imm}{β:Nat→Value}
theorem acv{cx:Cx}{w:World}(hw:aX G cx I β σ w)(n:Nat)(a b:AV)(h:uU n σ a=some b)(v:Value)(hr:Rep I β a v):aB (snap w) b v:=by
 unfold uU at h;split at h
 ·rename_i f l he;cases h;have:=yS hw n a _ he v hr;simpa only[aB]using this
 ·exact yS hw n a _ h v hr
theorem aS.ahH:∀{l:List AV} {vs:List Value},aS I l vs→aW I β l vs:=λh=>aS.rep β _ _ h
variable {args:Array Operand}{avs ps:List AV}{env:Env}{f:FuncId}{fo:Operand}{k:Array TypeId}{r:AV}{σs:Sto}
theorem Y.shot{cap:List AV}(n:Nat)(h:o.op=.call ⟨.value fo,args,k⟩)(hf:env.ev fo=.fn f cap)
    (kf:∀(args:Array Value) (w:World),(callFunc f args).run G.P w=.ok (.enter f args) w) (hro:RO G.P f [] avs r) (hp:env.nk args.toList=some ps) (ha:nL (uU n σs) (ps++cap)=some avs) (hs:pG σ σs)
    (hr:r.ic=true):Yields G o env.ev σ [] σs.ids r:=by
  intro σ' cx I β w ρ hR hw _ hop;have hf1:=hop fo (by simp[h,Op.operands,Call.operands]);rw[hf]at hf1;simp only[Rep]at hf1;obtain⟨vs,hf1,hcap⟩:=hf1;rw[qh h hf1 kf]
  have hsub:∀d o,σs.get d=some o→σ'.get d=some o:=λd o hd=>by
    obtain⟨p,p1,p2,p3⟩:=jo σs d o hd;rw[hR d (by rw[←p2];exact List.mem_map.2 ⟨p,p1,rfl⟩),←p2,←p3];exact hs.mem p p1
  have hws:=hw.sub hsub;have hargs:=fI _ _ _ _ (ni env.ev ρ args.toList λx hx=>hop x (by simp only[h,Op.operands,Call.operands];simp;right;simpa using hx)) hcap;rw[Env.oQ hp]at hargs;have nj:=oB (J:=snap w) (acv hws n) ha _ hargs
  have hin:aX ⟨G.P,0,[]⟩ (gO (snap w) β [] w) (snap w) β [] w:=
    {good:=qL,dO:=pJ,eX:=aQ.refl _,fU:=λ_ _ _ _=>rfl,frame:=λ_ _ _=>rfl,size:=Nat.le_refl _,tape:=rfl,os:=rfl,output:=rfl,drawn:=Nat.le_refl _,
     bB:=λd o hd=>by simp[Sto.get]at hd,bQ:=λd d' hd=>by simp[Sto.get]at hd,keep:=λd hd=>by simp at hd}
  refine Calls.mono (hro _ w (snap w) β _ hin nj.ahH) ?_;rintro e w' ⟨v,he,r',σ2,I',β',⟨hr1,hr2⟩,fD,hw'⟩;subst hr1 hr2;have hst:aX G cx I β σ' w':=hw.stay (λb hb=>hw'.frame b hb (by simp[gO,kQ,Sto.ids])) hw'.size hw'.tape hw'.os hw'.output hw'.drawn;exact⟨v,he,I,β,Rep.ic r' v hr fD,hst,aQ.refl I,λ_ _=>rfl⟩
mutual
def AV.oC:AV→Bool
 |.int _ _=>true
 |.bool _=>true
 |.str _=>true
 |.undef=>true
 |.own _=>true
 |.tup cs=>zP cs
 |.agg cs=>zP cs
 |_=>false
def zP:List AV→Bool
 |[]=>true
 |x::r=>x.oC&&zP r
end
mutual
theorem Rep.oC{I I':Imm}{β:Nat→Value}:∀(a:AV) (v:Value),a.oC=true→Rep I β a v→Rep I' β a v
 |.int _ _,v,_,h=>by simpa only[Rep,aB]using h
 |.bool _,v,_,h=>by simpa only[Rep,aB]using h
 |.str _,v,_,h=>by simpa only[Rep,aB]using h
 |.undef,v,_,h=>by simpa only[Rep,aB]using h
 |.own d,v,_,h=>by simpa only[Rep]using h
 |.tup cs,v,hs,h=>by
  simp only[Rep,AV.oC]at h hs ⊢;obtain⟨vs,h1,h2⟩:=h;exact⟨vs,h1,aW.oC cs _ hs h2⟩
 |.agg cs,v,hs,h=>by
  simp only[Rep,AV.oC]at h hs ⊢;obtain⟨vs,h1,h2⟩:=h;exact⟨vs,h1,aW.oC cs _ hs h2⟩
 |.dM,_,hs,_|.lst _ _,_,hs,_|.cV _,_,hs,_|.fn _ _,_,hs,_|.bI,_,hs,_|.lC,_,hs,_|.ptr _ _,_,hs,_|.bX _,_,hs,_|.cfn _ _,_,hs,_|.sl0,_,hs,_|.hnd _ _,_,hs,_=>by simp[AV.oC]at hs
theorem aW.oC{I I':Imm}{β:Nat→Value}:∀(a:List AV) (v:List Value),zP a=true→aW I β a v→aW I' β a v
 |[],v,_,h=>h
 |x::r,v,hs,h=>by
  simp only[aW,zP,Bool.and_eq_true]at h hs ⊢;obtain⟨u,us,h1,h2,h3⟩:=h;exact⟨u,us,h1,Rep.oC x u hs.1 h2,aW.oC r us hs.2 h3⟩
end
theorem rO.get:∀{σ:Sto} {d:Nat} {o:br},rO σ→σ.get d=some o→aeD o
 |[],_,_,_,h=>by simp[Sto.get]at h
 |(x,v)::r,d,o,hf,h=>by
  obtain⟨p,p1,_,p3⟩:=jo ((x,v)::r) d o h;have:∀(σ:Sto),rO σ→∀p∈σ,aeD p.2:=by
   intro σ;induction σ with
   |nil=>intro _ p hp;simp at hp
   |cons q r ih=>
    intro hf p hp;rcases List.mem_cons.1 hp with rfl|hp
    ·exact hf.1
    ·exact ih hf.2 p hp
  rw[←p3];exact this _ hf p p1
theorem aln{α:Type}(e:En α)(he:∀x,lu (e.enc x)=true)(l:List α):∀r∈ml e l,lu r=true:=λr hr=>by
 obtain⟨x,_,rfl⟩:=List.mem_map.1 hr;exact he x
theorem wN:∀{a b:List AV},lu a=true→lu b=true→lu (a++b)=true
 |[],_,_,h=>h
 |x::r,b,ha,hb=>by
  simp only[List.cons_append,lu,Bool.and_eq_true]at ha ⊢;exact⟨ha.1,wN ha.2 hb⟩
theorem vY:∀{xs:List (List AV)},(∀e∈xs,lu e=true)→lu xs.flatten=true
 |[],_=>rfl
 |x::r,h=>by
  rw[List.flatten_cons];exact wN (h x (by simp)) (vY λe he=>h e (by simp[he]))
mutual
theorem aB.ic{I I':Imm}:∀(a:AV) (v:Value),a.ic=true→aB I a v→aB I' a v
 |.int _ _,v,_,h=>by simpa only[aB]using h
 |.bool _,v,_,h=>by simpa only[aB]using h
 |.str _,v,_,h=>by simpa only[aB]using h
 |.undef,v,_,h=>by simpa only[aB]using h
 |.tup cs,v,hs,h=>by
  simp only[aB,AV.ic]at h hs ⊢;obtain⟨vs,h1,h2⟩:=h;exact⟨vs,h1,aS.ic cs _ hs h2⟩
 |.agg cs,v,hs,h=>by
  simp only[aB,AV.ic]at h hs ⊢;obtain⟨vs,h1,h2⟩:=h;exact⟨vs,h1,aS.ic cs _ hs h2⟩
 |.dM,_,hs,_|.lst _ _,_,hs,_|.cV _,_,hs,_|.fn _ _,_,hs,_|.bI,_,hs,_|.lC,_,hs,_|.own _,_,hs,_|.ptr _ _,_,hs,_|.bX _,_,hs,_|.cfn _ _,_,hs,_|.sl0,_,hs,_|.hnd _ _,_,hs,_=>by simp[AV.ic]at hs
theorem aS.ic{I I':Imm}:∀(a:List AV) (v:List Value),lu a=true→aS I a v→aS I' a v
 |[],v,_,h=>h
 |x::r,v,hs,h=>by
  simp only[aS,lu,Bool.and_eq_true]at h hs ⊢;obtain⟨u,us,h1,h2,h3⟩:=h;exact⟨u,us,h1,aB.ic x u hs.1 h2,aS.ic r us hs.2 h3⟩
end
theorem ta:∀σ:Sto,Sto.minus [] σ=σ
 |[]=>rfl
 |(d,o)::r=>by simp only[Sto.minus,List.contains_nil,cond_false,ta r]
theorem D.ahh{cap:List AV}{σ2:Sto}(n:Nat)(news:List Nat)(h:o.op=.call ⟨.value fo,args,k⟩)(hf:env.ev fo=.fn f cap)
    (kf:∀(args:Array Value) (w:World),(callFunc f args).run G.P w=.ok (.enter f args) w) (hro:b9 G.P f [] avs (λa σ'=>a=r∧σ'=σ2)) (hp:env.nk args.toList=some ps) (ha:nL (uU n σs) (ps++cap)=some avs) (hs:pG σ σs)
    (hn:news.all (λd=>!G.ids.contains d&&(σ.get d).isNone)=true) (hcl:σ.clean news.contains=true) (hr:r.oC=true) (hr2:r.refs (λd=>!news.contains d)=false) (h2:σ2.clean (λd=>!news.contains d)=true) (hfl:rO σ2) :
    dU G o env.ev σ news news (λa σ'=>a=r∧σ'=σ2++σ):=by
  intro cx I β w ρ hw hop;have hf1:=hop fo (by simp[h,Op.operands,Call.operands]);rw[hf]at hf1;simp only[Rep]at hf1;obtain⟨vs,hf1,hcap⟩:=hf1;rw[qh h hf1 kf]
  have hws:=hw.sub (σ2:=σs) λd o hd=>by
    obtain⟨p,p1,p2,p3⟩:=jo σs d o hd;rw[←p2,←p3];exact hs.mem p p1
  have hargs:=fI _ _ _ _ (ni env.ev ρ args.toList λx hx=>hop x (by simp only[h,Op.operands,Call.operands];simp;right;simpa using hx)) hcap;rw[Env.oQ hp]at hargs;have nj:=oB (J:=snap w) (acv hws n) ha _ hargs
  have hin:aX ⟨G.P,0,[]⟩ (gO (snap w) β [] w) (snap w) β [] w:=
    {good:=qL,dO:=pJ,eX:=aQ.refl _,fU:=λ_ _ _ _=>rfl,frame:=λ_ _ _=>rfl,size:=Nat.le_refl _,tape:=rfl,os:=rfl,output:=rfl,drawn:=Nat.le_refl _,
     bB:=λd o hd=>by simp[Sto.get]at hd,bQ:=λd d' hd=>by simp[Sto.get]at hd,keep:=λd hd=>by simp at hd}
  refine Calls.mono (hro _ w (snap w) β _ hin nj.ahH) ?_;rintro e w' ⟨v,he,r',σ3,I',β',⟨hr1,hs3⟩,fD,hw'⟩;subst hr1 hs3;have hfr:∀b,b<w.heap.size→w'.heap[b]?=w.heap[b]?:=λb hb=>hw'.frame b hb (by simp[gO,kQ])
  have hpl:∀b,Place (gO (snap w) β [] w) b→w.heap.size≤b:=λb hb=>by
    rcases hb with hb|hb
    · exact hb
    · simp[gO,kQ]at hb
  have key:aX ⟨G.P,0,[]⟩ (gO I β [] w) (λb o=>if b<w.heap.size then I b o else I' b o) β' σ3 w':=
    {good:=λb o v hv=>by
        by_cases hb:b<w.heap.size
        · simp only[hb,if_true]at hv
          have h1:=hw.good b o v hv;rw[World.cell?_of_block (w:=w) (hfr b hb)];exact h1
        · simp only[hb,if_false]at hv
          exact hw'.good b o v hv
     dO:=λb v hv=>by
        by_cases hb:b<w.heap.size
        · simp only[hb,if_true]at hv
          obtain⟨es,clock,h1,h2⟩:=hw.dO b v hv;exact⟨es,clock,by rw[hfr b hb];exact h1,h2⟩
        · simp only[hb,if_false]at hv
          exact hw'.dO b v hv
     eX:=λb o v hv=>by
        have hlt:b<w.heap.size:=hw.amu hv;simp only[hlt,if_true];exact hv
     fU:=λb hb _ o=>by
        have hb:b<w.heap.size:=hb;simp only[hb,if_true];rfl
     frame:=λb hb _=>hfr b hb
     size:=hw'.size,tape:=hw'.tape,os:=hw'.os,output:=hw'.output,drawn:=hw'.drawn
     bB:=λd o hd=>by
        have ho:=hw'.bB d o hd;have hfo:=hfl.get hd;cases o with
        |slice T sz xs kk fz=>
          simp only[aj]at ho ⊢;rcases ho with q|q|⟨b,cap,arr,q1,q2,q3,q4,q5,q6,q7,q8,q9,q10,q11⟩
          · exact .inl q
          · exact .inr (.inl q)
          · have hb:=hpl b q11
            have hnb:¬b<w.heap.size:=by omega
            refine .inr (.inr ⟨b,cap,arr,q1,q2,q3,q4,q5,aS.ic _ _ (vY hfo) q6,q7,q8,?_,?_,.inl hb⟩)
            · simp only[hnb,if_false];exact q9
            · simp only[hnb,if_false];exact q10
        |cells _ _=>exact absurd hfo id
        |map _ _ _=>exact absurd hfo id
        |win _ _ _=>exact absurd hfo id
        |jA _ _ _=>exact absurd hfo id
        |dI _ _ _ _ _=>exact absurd hfo id
        |iter _ _ _ _=>exact absurd hfo id
        |hdr _ _=>exact absurd hfo id
        |bun _=>exact absurd hfo id
        |b8 _ _ _ _=>exact absurd hfo id
        |slm _ _ _=>exact absurd hfo id
        |vec _ _=>exact absurd hfo id
        |ei _ _ _ _=>exact absurd hfo id
        |gh _ _ _ _ _ _=>exact absurd hfo id
     bQ:=hw'.bQ,keep:=λd hd=>by simp at hd}
  have hn':∀d∈news,d∉G.ids∧σ.get d=none:=λd hd=>by
    have:=List.all_eq_true.1 hn d hd;simpa using this
  have hm:σ.minus (Sto.ids [])=σ:=ta σ;obtain⟨g1,g2,g3⟩:=hw.after (σc:=[]) (by simp) key news hn' (by rw[hm];exact hcl) (by simpa [Sto.ids]using h2);rw[hm]at g1;refine⟨v,he,r',_,_,_,⟨rfl,rfl⟩,g3 r' v (by simpa [Sto.ids]using hr2) (Rep.oC r' v hr fD),g1,g2,λd hd=>by simp[hd],λd hd=>?_⟩;rw[Sto.ji];cases h4:σ3.get d with
  |some o'=>
    have:=(Sto.cm h2 d o' h4).1;have:news.contains d=true:=by rw[←Bool.not_eq_false'];exact this
    exact absurd (List.contains_iff_mem.1 this) hd
  |none=>rfl
def aeE(op:BinOp)(k:IntKind)(m n:Int):Option AV:=match op with
 |.add=>some (.int k (k.wrap (m+n)))
 |.sub=>some (.int k (k.wrap (m-n)))
 |.mul=>some (.int k (k.wrap (m*n)))
 |.lss=>some (.bool (decide (m<n)))
 |.leq=>some (.bool (decide (m≤n)))
 |.gtr=>some (.bool (decide (n<m)))
 |.geq=>some (.bool (decide (n≤m)))
 |.eql=>some (.bool (decide (m=n)))
 |.neq=>some (.bool (!decide (m=n)))
 |.and=>some (.int k (fk .and k m n))
 |.or=>some (.int k (fk .or k m n))
 |.xor=>some (.int k (fk .xor k m n))
 |.andNot=>some (.int k (fk .andNot k m n))
 |_=>none
def ajr(tb:Tb)(env:Env)(σ:Sto)(c:Call):Option (List Nat×AV):=match c.callee with
 |.builtin b=>(match b with
  |.len=>(match c.args.toList with
   |[x]=>(match c.argTypes.toList with
    |[T]=>(match tb.get T with
     |some ⟨_,_,_,.slice _ _ _ _⟩=>(match env.evo x with
      |some (.lst _ xs)=>some ([],.int .i64 (xs.length:Int))
      |some .bI=>some ([],.int .i64 0)
      |some (.own d)=>(match σ.get d with|some (.slice _ _ xs _ _)=>some ([d],.int .i64 (xs.length:Int))|some (.win _ _ xs)=>some ([d],.int .i64 (xs.length:Int))|_=>none)
      |_=>none)
     |some ⟨_,_,_,.str⟩=>(match env.evo x with|some (.str s)=>some ([],.int .i64 (s.size:Int))|_=>none)
     |_=>none)
    |_=>none)
   |_=>none)
  |.min=>(match c.args.toList with
   |[x,y]=>(match env.evo x with
    |some (.int k m)=>(match env.evo y with|some (.int _ n)=>some ([],.int k (if n<m then n else m))|_=>none)
    |_=>none)
   |_=>none)
  |.max=>(match c.args.toList with
   |[x,y]=>(match env.evo x with
    |some (.int k m)=>(match env.evo y with|some (.int _ n)=>some ([],.int k (if n>m then n else m))|_=>none)
    |_=>none)
   |_=>none)
  |_=>none)
 |_=>none
def auY(tb:Tb)(env:Env)(σ:Sto):Op→Option (List Nat×AV)
 |.move x|.assign x=>match env.evo x with|none=>none|some a=>some ([],a)
 |.pick c x y=>match env.evo c with
  |some (.bool true)=>(match env.evo x with|none=>none|some a=>some ([],a))
  |some (.bool false)=>(match env.evo y with|none=>none|some a=>some ([],a))
  |_=>none
 |.fieldAddr T x f=>match tb.get T with
  |some ⟨_,_,_,.struct _ pl _⟩=>(match pl[f]? with
   |none=>none
   |some (off,_)=>match env.evo x with
    |some (.ptr d p)=>some ([],.ptr d (p+off))
    |some (.cV cs)=>(match spine (cs.drop off)with|none=>none|some l=>some ([],.cV l))
    |_=>none)
  |_=>none
 |.field T x f=>match tb.get T with
  |some ⟨_,_,_,.struct _ pl ags⟩=>(match pl[f]? with
   |none=>none
   |some (off,n)=>match ags[f]? with
    |none=>none
    |some ag=>match env.evo x with
     |some (.agg cs)=>bif Nat.ble (off+n) cs.length then(match ldO ag n (cs.drop off)with|none=>none|some a=>some ([],a))else none
     |_=>none)
  |_=>none
 |.load T x=>match tb.get T with
  |none=>none
  |some i=>match env.evo x with
   |some (.ptr d p)=>(match σ.get d with
    |some (.cells _ cs)=>bif (i.ag||Nat.blt 0 i.sz)&&Nat.ble (p+i.sz) cs.length then(match ldO i.ag i.sz (cs.drop p)with|none=>none|some a=>some ([d],a))else none
    |_=>none)
   |some (.cV cs)=>bif (i.ag||Nat.blt 0 i.sz)&&Nat.ble i.sz cs.length then(match ldO i.ag i.sz cs with|none=>none|some a=>some ([],a))else none
   |_=>none
 |.binOp op T x y _=>match env.evo x with
  |some (.int k m)=>(match env.evo y with
   |some (.int k' n)=>bif decide (k=k')then(match aeE op k m n with|none=>none|some a=>some ([],a))else none
   |_=>none)
  |some (.bool a)=>(match tb.get T with
   |some ⟨_,_,_,.bool⟩=>(match env.evo y with
    |some (.bool b)=>(match op with
     |.eql=>some ([],.bool (a==b))
     |.neq=>some ([],.bool (!(a==b)))
     |_=>none)
    |_=>none)
   |_=>none)
  |_=>none
 |.unOp op _ x=>match op with
  |.not=>(match env.evo x with|some (.bool b)=>some ([],.bool (!b))|_=>none)
  |.neg=>(match env.evo x with|some (.int k n)=>some ([],.int k (k.wrap (0-n)))|_=>none)
  |_=>none
 |.convert T T' x=>match tb.get T with
  |some ⟨_,_,_,.int _⟩=>(match tb.get T' with
   |some ⟨_,_,_,.int k'⟩=>(match env.evo x with|some (.int _ n)=>some ([],.int k' (k'.wrap n))|_=>none)
   |_=>none)
  |_=>none
 |.extract x j=>match env.evo x with
  |some (.tup vs)=>(match vs[j]? with|none=>none|some a=>some ([],a))
  |_=>none
 |.nilCheck x=>match env.evo x with
  |some (.ptr d p)=>some ([],.ptr d p)
  |some (.cV cs)=>some ([],.cV cs)
  |_=>none
 |.build T parts=>match tb.get T with
  |some ⟨_,_,_,.struct zs pl _⟩=>(match env.ru parts.toList with
   |none=>none
   |some ps=>match uQ pl (lq zs) ps with|none=>none|some cs=>some ([],.agg cs))
  |_=>none
 |.buildSlice T len parts=>match tb.get T with
  |some ⟨_,_,_,.slice _ sz _ _⟩=>bif Nat.beq parts.size len&&(Nat.ble (len*sz) 65536&&Nat.ble len 65536)then(match env.ru parts.toList with
   |none=>none
   |some ps=>match mc sz 0 (acu ps)with
    |none=>none
    |some xs=>bif eO xs.flatten then some ([],.lst true xs)else none)else none
  |_=>none
 |.makeFunc fn first cap=>match fn with
  |.func f=>(match first.toList with
   |[]=>(match env.nk cap.toList with|none=>none|some l=>some ([],.fn f l))
   |_=>none)
  |_=>none
 |.call c=>ajr tb env σ c
 |_=>none
end
section
section
variable {P:Program}{N:Nat}{ids:List Nat}{tb:Tb}{o:Oper}{env:Env}{σ:Sto}
theorem Y.negW{G:Gl}{ev:Operand→AV}{T:TypeId}{x:Operand}{k:IntKind}{n:Int}(h:o.op=.unOp .neg T x)(hx:ev x=.int k n):Yields G o ev σ [] [] (.int k (k.wrap (0-n))):=
 .pure λ_ _ I β w ρ _ _ hop=>by
  have h1:=hop x (by simp[h,Op.operands]);rw[hx]at h1;have h1:=de h1
  exact⟨.int k (k.wrap (0-n)),by simp only[execOp,h,h1,Op.unary,Op.intArith];rfl,by simp[Rep,aB]⟩
theorem Y.quoW{G:Gl}{ev:Operand→AV}{T T':TypeId}{x y:Operand}{k:IntKind}{m n:Int}(h:o.op=.binOp .quo T x y T')(hx:ev x=.int k m)(hy:ev y=.int k n)(hn:n≠0):Yields G o ev σ [] [] (.int k (k.wrap (m.tdiv n))):=
 Y.int h hx hy (by decide) (λw=>by simp[Op.intDiv,hn];rfl) (λ_ _=>by simp only[Rep,aB])
theorem sI(xs:List (List AV)):xs.map id=xs:=List.map_id xs
theorem Y.adI{G:Gl}{o:Oper}{ev:Operand→AV}{σ:Sto}{T E sz len d:Nat}{parts:Array (Nat×Operand)}{zs:List Value}{xs:List (List AV)}(h:o.op=.buildSlice T len parts)(hT:iP G.P T E sz zs)(hl:parts.size=len)(hs:len*sz≤65536∧len≤65536)
  (hf:mS sz 0 (parts.toList.map λp=>(p.1,ev p.2))=some xs) (hc:eO xs.flatten=true) (hi:G.ids.contains d=false):Yields G o ev ((d,.slice E sz xs 0 false)::σ) [d] [d] (.own d):=by
 intro σ' cx I β w ρ hR hw hm hop;have h1:∀p∈parts.toList,Rep I β (ev p.2) (ρ p.2):=λp hp=>hop p.2 (by simp only[h,Op.operands];simpa using ⟨p.1,by simpa using hp⟩);obtain⟨z,hz1,hz2⟩:=hT.zero w
 let L:Array Value:=(Array.range (len*sz)).map ((if len*sz=0 then #[]else z.cells)[·%(if len*sz=0 then #[]else z.cells:Array Value).size]!)
 have hLs:L.size=len*sz:=by simp[L]
 obtain⟨r,us,r1,r2,r3,r4,r5,r6⟩:=qz (I:=I) (β:=β) sz (parts.toList.map λp=>(p.1,ev p.2)) (parts.toList.map λp=>(p.1,ρ p.2)) 0 L xs
  ⟨by simp,λj p q hj hq=>by
   simp only[List.getElem?_map]at hj hq;cases hx:parts.toList[j]? with
   |none=>rw[hx]at hj;cases hj
   |some y=>
    rw[hx]at hj hq;simp only[Option.map_some,Option.some.injEq]at hj hq;subst hj hq;exact⟨rfl,h1 y (List.mem_of_getElem? hx)⟩⟩ hf (by simp[hLs,hl])
 have hru:r.toList=us:=by
  rw[r3];have e0:L.toList.drop ((0+(parts.toList.map λp=>(p.1,ev p.2)).length)*sz)=[]:=List.drop_of_length_le (by simp[hLs,hl]);rw[e0];simp
 have hxl:xs.length=len:=by rw[r6];simp[hl]
 have hrun:(execOp ρ o).run G.P w=.ok (.value (.slice (some ⟨w.heap.size,0,none⟩) len len)) (w.alloc (.cells r E)):=by
  have hlim:¬(len*sz>2 ^ 24):=by have:(2:Nat) ^ 24=16777216:=by decide
                                 omega
  have j9:Instr.fill (λi=>some (i*sz,sz)) L (parts.map λ(i,x)=>(i,ρ x)).toList=some r:=by simpa using r1
  simp only[execOp,h,Instr.buildSlice,Sem.run_bind,run_underlying hT.und,hT.size,Result.andThen_ok,hlim,if_false];by_cases h0:len*sz=0
  ·have hL0:L=(Array.range (len*sz)).map ((#[]:Array Value)[·%(#[]:Array Value).size]!):=by simp only[L,h0,if_true]
   rw[hL0]at j9;simp only[h0,if_true,Sem.run_bind,Sem.run_pure,Result.andThen_ok]at j9 ⊢;simp only[j9];simp[newRow]
  ·have hL0:L=(Array.range (len*sz)).map (z.cells[·%z.cells.size]!):=by simp only[L,h0,if_false]
   rw[hL0]at j9;simp only[h0,if_false,Sem.run_bind,hz1,Sem.run_pure,Result.andThen_ok];simp only[j9];simp[newRow]
 rw[hrun];have hβ:=hm d (by simp);have hrows:=r5;have hfl:=jm xs hrows;have hus:us.length=xs.length*sz:=by rw[gd _ _ r4,hfl]
 refine⟨I,en β d (.slice (some ⟨w.heap.size,0,none⟩) len len),by simp only[Rep];exact⟨(bO _ _ _).symm,rfl⟩,?_,aQ.refl I,λx hx=>cc β _ (λe=>hx (by simp[e]))⟩;refine hw.real (by simpa using hi) hβ rfl λob hob=>?_;rw[hR d (by simp),Sto.aK,if_pos rfl]at hob;injection hob with hob
 subst hob;simp only[aj,bO];refine .inr (.inr ⟨w.heap.size,len,r,by rw[hxl],by omega,by simp only[maxLen];omega,heap_alloc_new w _,?_,?_,hrows,by omega,(λh=>by cases h),λo _=>hw.ct (Nat.le_refl _) o,.inl hw.size⟩)
 ·rw[←Array.length_toList,hru,hus,hxl]
 ·rw[hru,List.take_of_length_le (by rw[hus];exact Nat.le_refl _)];exact aW.closed _ _ hc r4
theorem Y.arl{G:Gl}{ev:Operand→AV}{fo:Operand}{args:Array Operand}{k:Array TypeId}{f:FuncId}{cap avs:List AV}{σs:Sto}{r:AV}(h:o.op=.call ⟨.value fo,args,k⟩)(hf:ev fo=.cfn f cap)
  (kf:∀(args:Array Value) (w:World),(callFunc f args).run G.P w=.ok (.enter f args) w) (hs:∀p∈σs,σ.get p.1=some p.2) (ha:fM σs (args.toList.map ev) avs)
  (hro:RO G.P f [] (avs++cap) r) (hr:r.closed=true):Yields G o ev σ [] σs.ids r:=by
 intro σ' cx I β w ρ hR hw _ hop;have hf1:=hop fo (by simp[h,Op.operands,Call.operands]);rw[hf]at hf1;simp only[Rep,aB]at hf1;obtain⟨vs,hf1,hcap⟩:=hf1;rw[qh h hf1 kf]
 have hsub:∀d o,σs.get d=some o→σ'.get d=some o:=λd o hd=>by
  obtain⟨p,p1,p2,p3⟩:=jo σs d o hd;rw[hR d (by rw[←p2];exact List.mem_map.2 ⟨p,p1,rfl⟩),←p2,←p3];exact hs p p1
 have hws:=hw.sub hsub;have hargs:=ni ev ρ args.toList λx hx=>hop x (by simp only[h,Op.operands,Call.operands];simp;right;simpa using hx);have nj:=fI _ _ _ _ (ha.rep hws _ hargs) (aS.rep β _ _ hcap);have hin:=hw.wA (P:=G.P) (σc:=[]) (by simp);refine Calls.mono (hro _ w I β _ hin nj) ?_;rintro e w' ⟨v,he,r',σ2,I',β',⟨hr1,hr2⟩,fD,hw'⟩;subst hr1 hr2;obtain⟨h1,h2,h3⟩:=hw.after (σc:=[]) (by simp) hw' [] (by simp) (Sto.gi _) rfl;refine⟨v,he,I',β,?_,?_,h2,λ_ _=>rfl⟩
 ·exact aB.rep β _ _ (Rep.closed r' v hr fD)
 ·refine({h1 with}:aX G cx I' β ([]++σ'.minus (Sto.ids [])) w').sub λd o hd=>?_;rw[Sto.ji,Sto.dn];simpa [Sto.get,Sto.ids]using hd
theorem Y.minI{G:Gl}{ev:Operand→AV}{x y:Operand}{k k':IntKind}{m n:Int}{ts:Array TypeId}(h:o.op=.call ⟨.builtin .min,#[x,y],ts⟩)(hx:ev x=.int k m)(hy:ev y=.int k' n):Yields G o ev σ [] [] (.int k (if n<m then n else m)):=
 .pure λ_ _ I β w ρ _ _ wD=>by
  have h1:=wD x (by simp[h,Op.operands,Call.operands]);rw[hx]at h1;have h1:=de h1
  have h2:=wD y (by simp[h,Op.operands,Call.operands]);rw[hy]at h2;have h2:=de h2
  exact⟨.int k (if n<m then n else m),by simp[execOp,h,resolve,invoke,builtin,Builtin.min_,Builtin.min2,h1,h2],by simp[Rep,aB]⟩
theorem Y.maxI{G:Gl}{ev:Operand→AV}{x y:Operand}{k k':IntKind}{m n:Int}{ts:Array TypeId}(h:o.op=.call ⟨.builtin .max,#[x,y],ts⟩)(hx:ev x=.int k m)(hy:ev y=.int k' n):Yields G o ev σ [] [] (.int k (if n>m then n else m)):=
 .pure λ_ _ I β w ρ _ _ wD=>by
  have h1:=wD x (by simp[h,Op.operands,Call.operands]);rw[hx]at h1;have h1:=de h1
  have h2:=wD y (by simp[h,Op.operands,Call.operands]);rw[hy]at h2;have h2:=de h2
  exact⟨.int k (if n>m then n else m),by simp[execOp,h,resolve,invoke,builtin,Builtin.max_,Builtin.max2,h1,h2],by simp[Rep,aB]⟩
theorem alo{op:BinOp}{T T':TypeId}{x y:Operand}{k:IntKind}{m n:Int}{a:AV}(h:o.op=.binOp op T x y T')(hx:env.ev x=.int k m)(hy:env.ev y=.int k n)(hb:aeE op k m n=some a):Yields ⟨P,N,ids⟩ o env.ev σ [] [] a:=by
 cases op<;>simp only[aeE,Option.some.injEq]at hb<;>first|cases hb|skip
 all_goals (try subst hb)
 ·exact Y.addW h hx hy
 ·exact Y.subW h hx hy
 ·exact Y.mulW h hx hy
 ·exact Y.and h hx hy
 ·exact Y.or h hx hy
 ·exact Y.xor h hx hy
 ·exact Y.andNot h hx hy
 ·exact Y.eql h hx hy
 ·exact Y.neq h hx hy
 ·exact Y.lss h hx hy
 ·exact Y.leq h hx hy
 ·exact Y.gtr h hx hy
 ·exact Y.geq h hx hy
theorem am3(W:Wld P tb){R:List Nat}{av:AV}(h:auY tb env σ o.op=some (R,av)):Yields ⟨P,N,ids⟩ o env.ev σ [] R av:=by
 cases ho:o.op<;>rw[ho]at h<;>simp only[auY]at h
 case move x=>
  cases hx:env.evo x with
  |none=>rw[hx]at h;cases h
  |some a=>rw[hx]at h;cases h;rw[←Env.aG hx];exact Y.move ho
 case assign x=>
  cases hx:env.evo x with
  |none=>rw[hx]at h;cases h
  |some a=>rw[hx]at h;cases h;rw[←Env.aG hx];exact Y.assign ho
 case pick c x y=>
  split at h
  ·rename_i hc;cases hx:env.evo x with
   |none=>rw[hx]at h;cases h
   |some a=>rw[hx]at h;cases h;rw[←Env.aG hx];exact Y.aeq ho (Env.aG hc) rfl
  ·rename_i hc;cases hx:env.evo y with
   |none=>rw[hx]at h;cases h
   |some a=>rw[hx]at h;cases h;rw[←Env.aG hx];exact Y.aer ho (Env.aG hc) rfl
  ·cases h
 case fieldAddr T x f=>
  split at h
  ·rename_i sz ag zs0 zs pl ags hT;split at h
   ·cases h
   ·rename_i off n hf;have hk:=(fm.get W.tys hT).kd;simp only[kV]at hk;split at h
    ·rename_i d p hx;cases h;exact Y.ami ho (Env.aG hx) (hk.2.1 _ _ _ hf)
    ·rename_i cs hx;cases hs:spine (cs.drop off)with
     |none=>rw[hs]at h;cases h
     |some l=>rw[hs]at h;cases h;rw[←kR hs];exact Y.amj ho (Env.aG hx) (hk.2.1 _ _ _ hf)
    ·cases h
  ·cases h
 case field T x f=>
  split at h
  ·rename_i sz ag zs0 zs pl ags hT;split at h
   ·cases h
   ·rename_i off n hf;split at h
    ·cases h
    ·rename_i ag2 hag;have hk:=(fm.get W.tys hT).kd;simp only[kV]at hk;split at h
     ·rename_i cs hx;cases hb:Nat.ble (off+n) cs.length with
      |false=>rw[hb]at h;cases h
      |true=>
       rw[hb]at h;simp only[cond_true]at h;cases hs:ldO ag2 n (cs.drop off)with
       |none=>rw[hs]at h;cases h
       |some a=>rw[hs]at h;cases h;exact Z.field ho (Env.aG hx) (hk.2.2 _ _ _ _ hf hag) hb hs
     ·cases h
  ·cases h
 case load T x=>
  split at h
  ·cases h
  ·rename_i i hT;have hk:=(fm.get W.tys hT).ty;split at h
   ·rename_i d p hx;split at h
    ·rename_i T' cs hd;cases hb:((i.ag||Nat.blt 0 i.sz)&&Nat.ble (p+i.sz) cs.length)with
     |false=>rw[hb]at h;cases h
     |true=>
      rw[hb]at h;simp only[cond_true]at h;simp only[Bool.and_eq_true]at hb;cases hs:ldO i.ag i.sz (cs.drop p)with
      |none=>rw[hs]at h;cases h
      |some a=>rw[hs]at h;cases h;exact Z.zz ho (Env.aG hx) hk hd hb.1 hb.2 hs
    ·cases h
   ·rename_i cs hx;cases hb:((i.ag||Nat.blt 0 i.sz)&&Nat.ble i.sz cs.length)with
    |false=>rw[hb]at h;cases h
    |true=>
     rw[hb]at h;simp only[cond_true]at h;simp only[Bool.and_eq_true]at hb;cases hs:ldO i.ag i.sz cs with
     |none=>rw[hs]at h;cases h
     |some a=>rw[hs]at h;cases h;exact Z.aes ho (Env.aG hx) hk hb.1 hb.2 hs
   ·cases h
 case binOp op T x y T'=>
  split at h
  ·rename_i k m hx;split at h
   ·rename_i k' n hy;cases hkk:decide (k=k')with
    |false=>rw[hkk]at h;cases h
    |true=>
     rw[hkk]at h;simp only[cond_true]at h;have:=of_decide_eq_true hkk;subst this;cases hb:aeE op k m n with
     |none=>rw[hb]at h;cases h
     |some a=>rw[hb]at h;cases h;exact alo ho (Env.aG hx) (Env.aG hy) hb
   ·cases h
  ·rename_i a hx;split at h
   ·rename_i hT;have hk:=(fm.get W.tys hT).kd;simp only[kV]at hk;split at h
    ·rename_i b hy;split at h
     ·cases h;exact Y.beql ho (Env.aG hx) (Env.aG hy) hk
     ·cases h;exact Y.bneq ho (Env.aG hx) (Env.aG hy) hk
     ·cases h
    ·cases h
   ·cases h
  ·cases h
 case unOp op T x=>
  split at h
  ·split at h
   ·rename_i b hx;cases h;exact Y.not ho (Env.aG hx)
   ·cases h
  ·split at h
   ·rename_i k n hx;cases h;exact Y.negW ho (Env.aG hx)
   ·cases h
  ·cases h
 case convert T T' x=>
  split at h
  ·rename_i hT;split at h
   ·rename_i k' hT';split at h
    ·rename_i k n hx;cases h
     have h1:=(fm.get W.tys hT).kd;have h2:=(fm.get W.tys hT').kd;simp only[kV]at h1 h2;exact Y.convert ho (Env.aG hx) ⟨_,h1⟩ h2
    ·cases h
   ·cases h
  ·cases h
 case extract x j=>
  split at h
  ·rename_i vs hx;cases hj:vs[j]? with
   |none=>rw[hj]at h;cases h
   |some a=>rw[hj]at h;cases h;exact Y.extract ho (Env.aG hx) hj
  ·cases h
 case nilCheck x=>
  split at h
  ·rename_i d p hx;cases h;exact Y.afM ho (Env.aG hx)
  ·rename_i cs hx;cases h;exact Y.afN ho (Env.aG hx)
  ·cases h
 case build T parts=>
  split at h
  ·rename_i hT;have hk:=(fm.get W.tys hT).kd;simp only[kV]at hk;split at h
   ·cases h
   ·rename_i ps hp;split at h
    ·cases h
    ·rename_i cs hf;cases h;exact Z.build ho hk.1 hp hf
  ·cases h
 case buildSlice T len parts=>
  split at h
  ·rename_i hT;have hk:=(fm.get W.tys hT).kd;simp only[kV]at hk;generalize hb:(Nat.beq parts.size len&&_)=bb at h;cases bb with
   |false=>cases h
   |true=>
    simp only[cond_true]at h;rw[Bool.and_eq_true]at hb;split at h
    ·cases h
    ·rename_i ps hp;split at h
     ·cases h
     ·rename_i xs hf;cases hc:eO xs.flatten with
      |false=>rw[hc]at h;cases h
      |true=>rw[hc]at h;cases h;exact(Y.buildSlice ho hk.2.2 (by simpa using hb.1) (by simpa using hb.2) (by rw[←yR,Env.si hp];exact n9 _ hf) hc).off
  ·cases h
 case makeFunc fn first cap=>
  split at h
  ·rename_i f;split at h
   ·rename_i hf;split at h
    ·cases h
    ·rename_i l hl;cases h
     have:first=#[]:=by simpa using hf
     subst this;exact Z.makeFunc ho hl
   ·cases h
  ·cases h
 case call c=>
  obtain⟨cl,args,tys⟩:=c;simp only[ajr]at h;split at h
  ·rename_i b;split at h
   ·split at h
    ·rename_i x hx0;have:args=#[x]:=Array.toList_inj.1 (by simpa using hx0);subst this;split at h
     ·rename_i T hT0;have:tys=#[T]:=Array.toList_inj.1 (by simpa using hT0);subst this;split at h
      ·rename_i hT;have hk:=(fm.get W.tys hT).kd;simp only[kV]at hk;split at h
       ·rename_i f xs hx;cases h;exact Y.amk (rs:=xs) (enc:=id) ho rfl (by rw[sI];exact Env.aG hx) hk.1.und
       ·rename_i hx;cases h;exact Y.lenN ho rfl (Env.aG hx) hk.1.und
       ·rename_i d hx;split at h
        ·rename_i hd;cases h;exact Y.aml (enc:=id) ho rfl (Env.aG hx) (by rw[sI];exact hd) hk.1.und
        ·rename_i xs hd;cases h;exact Yields.win hd (Y.amk (rs:=xs) (enc:=id) ho rfl (by rw[sI];exact abn (Env.aG hx)) hk.1.und)
        ·cases h
       ·cases h
      ·rename_i hT;have hk:=(fm.get W.tys hT).kd;simp only[kV]at hk;split at h
       ·rename_i s hx;cases h;exact Y.lenS ho rfl (Env.aG hx) hk
       ·cases h
      ·cases h
     ·cases h
    ·cases h
   ·split at h
    ·rename_i x0 y0 hx0;have:args=#[x0,y0]:=Array.toList_inj.1 (by simpa using hx0);subst this;split at h
     ·rename_i k m hx;split at h
      ·rename_i k' n hy;cases h;exact Y.minI ho (Env.aG hx) (Env.aG hy)
      ·cases h
     ·cases h
    ·cases h
   ·split at h
    ·rename_i x0 y0 hx0;have:args=#[x0,y0]:=Array.toList_inj.1 (by simpa using hx0);subst this;split at h
     ·rename_i k m hx;split at h
      ·rename_i k' n hy;cases h;exact Y.maxI ho (Env.aG hx) (Env.aG hy)
      ·cases h
     ·cases h
    ·cases h
   ·cases h
  ·cases h
 all_goals cases h
end
end
section
def pL(env:Env)(c:Call):Option (FuncId×List AV):=match c.callee with
 |.value fo=>(match env.evo fo with
  |some (.fn f cap)=>(match env.nk c.args.toList with|none=>none|some ps=>some (f,ps++cap))
  |_=>none)
 |_=>none
variable {c:Call}{f:FuncId}
theorem oD{env:Env}{as:List AV}(h:pL env c=some (f,as)):∃fo args k cap ps,c=⟨.value fo,args,k⟩∧env.ev fo=.fn f cap∧env.nk args.toList=some ps∧as=ps++cap:=by
 obtain⟨cl,args,k⟩:=c;simp only[pL]at h;split at h
 ·rename_i fo;split at h
  ·rename_i f' cap hf;split at h
   ·cases h
   ·rename_i ps hp;cases h
    exact⟨fo,args,k,cap,ps,rfl,Env.aG hf,hp,rfl⟩
  ·cases h
 ·cases h
def aeG(env:Env)(c:Call):Option (FuncId×List AV×List AV):=match c.callee with
 |.value fo=>(match env.evo fo with
  |some (.cfn f cap)=>(match env.nk c.args.toList with|none=>none|some ps=>some (f,ps,cap))
  |_=>none)
 |_=>none
theorem ahI{env:Env}{as cp:List AV}(h:aeG env c=some (f,as,cp)):∃fo args k,c=⟨.value fo,args,k⟩∧env.ev fo=.cfn f cp∧env.nk args.toList=some as:=by
 obtain⟨cl,args,k⟩:=c;simp only[aeG]at h;split at h
 ·rename_i fo;split at h
  ·rename_i f' cap hf;split at h
   ·cases h
   ·rename_i ps hp;cases h
    exact⟨fo,args,k,rfl,Env.aG hf,hp⟩
  ·cases h
 ·cases h
def ahJ:AV→Option AV
 |.fn f l=>bif eO l then some (.cfn f l)else none
 |a=>some a
theorem alp{σ:Sto}{a b c:AV}(h:eT σ a b)(hb:ahJ b=some c):eT σ a c:=by
 cases b<;>simp only[ahJ,Option.some.injEq]at hb<;>first|(subst hb;exact h)|skip
 rename_i f l;cases hc:eO l with
 |false=>rw[hc]at hb;cases hb
 |true=>rw[hc]at hb;cases hb;exact .cfn h hc
def uV(σ:Sto):Nat→List AV→Option (List AV)
 |_,[]=>some []
 |m,x::r=>match(bif Nat.beq (m%2) 1 then some x else match eB [] σ x with|none=>none|some a=>ahJ a)with
  |none=>none
  |some a=>match uV σ (m / 2) r with
   |none=>none
   |some l=>some (a::l)
theorem uW{σ:Sto}:∀{m:Nat} {a b:List AV},uV σ m a=some b→fM σ a b
 |m,[],b,h=>by simp only[uV,Option.some.injEq]at h;subst h;exact .nil
 |m,x::r,b,h=>by
  simp only[uV]at h;split at h
  ·cases h
  ·rename_i a ha;split at h
   ·cases h
   ·rename_i l hl;simp only[Option.some.injEq]at h;subst h
    refine .cons ?_ (uW hl);cases hb:Nat.beq (m%2) 1 with
    |true=>rw[hb]at ha;cases ha;exact .refl _
    |false=>
     rw[hb]at ha;simp only[cond_false]at ha;split at ha
     ·cases ha
     ·rename_i a0 ha0;exact alp (iC ha0) ha
theorem fM.append{σ:Sto}:∀{a b c d:List AV},fM σ a b→fM σ c d→fM σ (a++c) (b++d)
 |_,_,_,_,.nil,h=>h
 |_,_,_,_,.cons h t,h2=>.cons h (fM.append t h2)
def rz(env:Env)(d:Int):Option Operand→Option Int
 |none=>some d
 |some x=>match env.evo x with|some (.int _ n)=>some n|_=>none
variable {x:Option Operand}
theorem aaw{env:Env}{n:Int}(h:rz env 0 x=some n):nZ env.ev x∧jC env.ev x=n:=by
 cases x with
 |none=>simp only[rz,Option.some.injEq]at h;exact⟨trivial,h⟩
 |some x=>
  simp only[rz]at h;split at h
  ·rename_i k m hm;cases h;exact⟨⟨k,_,Env.aG hm⟩,by simp only[jC,Env.aG hm]⟩
  ·cases h
theorem aax{env:Env}{l:Nat}{n:Int}(h:rz env (l:Int) x=some n):nZ env.ev x∧pF env.ev l x=n:=by
 cases x with
 |none=>simp only[rz,Option.some.injEq]at h;exact⟨trivial,h⟩
 |some x=>
  simp only[rz]at h;split at h
  ·rename_i k m hm;cases h;exact⟨⟨k,_,Env.aG hm⟩,by simp only[pF,Env.aG hm]⟩
  ·cases h
def stE(env:Env)(σ:Sto)(tb:Tb):Op→Option Stp
 |.store T x y=>match tb.get T with
  |none=>none
  |some i=>match env.evo x with
   |some (.ptr d p)=>(match env.evo y with
    |none=>none
    |some a=>match σ.get d with
     |some (.cells T' cs)=>(match mD a with
      |none=>none
      |some ca=>bif a.flat&&Nat.beq ca.length i.sz&&Nat.ble (p+i.sz) cs.length then(match spine (cG cs p ca)with
       |none=>none
       |some cs'=>some (.e [d] [] .undef (σ.set d (.cells T' cs'))))else none)
     |_=>none)
   |_=>none
 |_=>none
def alE(tb:Tb)(ids:List Nat)(env:Env)(d:Nat):Op→Option Stp
 |.alloc T=>match tb.get T with
  |some ⟨_,_,some zs,_⟩=>(match spine (lq zs)with|none=>none|some cs=>bif !ids.contains d then some (.v d (.cells T cs) (.ptr d 0))else none)
  |_=>none
 |.box T x=>match env.evo x with
  |none=>none
  |some a=>match mD a with
   |none=>none
   |some cs=>bif a.flat&&!a.refs (Nat.beq d)&&!ids.contains d then some (.v d (.cells T cs) (.ptr d 0))else none
 |.buildSlice T len parts=>match tb.get T with
  |some ⟨_,_,_,.slice E sz _ _⟩=>bif Nat.beq parts.size len&&(Nat.ble (len*sz) 65536&&Nat.ble len 65536)&&!ids.contains d then(match env.ru parts.toList with
   |none=>none
   |some ps=>match mc sz 0 (acu ps)with
    |none=>none
    |some xs=>bif eO xs.flatten then some (.v d (.slice E sz xs 0 false) (.own d))else none)else none
  |_=>none
 |.makeMap T none=>match tb.get T with
  |some ⟨_,_,_,.map K E _⟩=>bif !ids.contains d then some (.v d (.map K E []) (.bX d))else none
  |_=>none
 |_=>none
def ixE(tb:Tb)(env:Env)(σ:Sto)(sz:Nat)(row:List AV):Op→Option (Stp×Obs)
 |.indexAddr T x y=>match tb.get T with
  |some ⟨_,_,_,.slice _ sz' _ _⟩=>(match env.evo y with
   |some (.int _ i)=>(match env.evo x with
    |some (.lst _ xs)=>(match spine row with
     |none=>none
     |some r=>bif Nat.beq sz' sz then some (.y [] (.cV r),([.lst false xs,.int .i64 i],[]))else none)
    |some (.own d)=>(match σ.get d with
     |some (.slice _ oE xs _ _)=>bif Nat.beq sz' sz&&Nat.beq oE sz then some (.y [d] (.ptr d (i.toNat*sz)),([.lst false xs,.int .i64 i],[]))else none
     |some (.win _ _ xs)=>(match spine row with
      |none=>none
      |some r=>bif Nat.beq sz' sz then some (.y [d] (.cV r),([.lst false xs,.int .i64 i],[]))else none)
     |_=>none)
    |_=>none)
   |_=>none)
  |_=>none
 |_=>none
def loE(tb:Tb)(env:Env)(σ:Sto)(d sz off:Nat)(row:List AV):Op→Option (Stp×Obs)
 |.load T x=>match tb.get T with
  |none=>none
  |some i=>match env.evo x with
   |some (.ptr d' p)=>(match σ.get d with
    |some (.slice _ sz' xs _ _)=>bif Nat.beq d' d&&Nat.beq sz' sz&&(i.ag||Nat.blt 0 i.sz)&&Nat.ble (off+i.sz) sz then(match ldO i.ag i.sz (row.drop off)with
     |none=>none
     |some a=>some (.y [d] a,([.lst false xs,.ptr d' p],[])))else none
    |_=>none)
   |_=>none
 |_=>none
def soE(tb:Tb)(env:Env)(σ:Sto)(d sz off k:Nat)(zs:List (List AV)):Op→Option (Stp×Obs)
 |.store T x y=>match tb.get T with
  |none=>none
  |some i=>match env.evo x with
   |some (.ptr d' p)=>(match env.evo y with
    |none=>none
    |some a=>match mD (lJ a)with
     |none=>none
     |some ca=>match σ.get d with
      |some (.slice T' sz' xs k' _)=>bif Nat.beq d' d&&Nat.beq sz' sz&&Nat.beq k' k&&(lJ a).flat&&eO ca&&Nat.beq ca.length i.sz&&Nat.ble (off+i.sz) sz then
        some (.e [d] [] .undef (σ.set d (.slice T' sz' zs k' false)),([.lst false xs,.ptr d' p,.agg ca],[]))else none
      |_=>none)
   |_=>none
 |_=>none
mutual
def AV.owns:AV→List Nat
 |.own d=>[d]
 |.agg cs=>uX cs
 |.tup cs=>uX cs
 |.fn _ cs=>uX cs
 |_=>[]
def uX:List AV→List Nat
 |[]=>[]
 |x::r=>x.owns++uX r
end
def rfE(env:Env)(σ:Sto)(r:AV):Op→Option (Stp×Obs)
 |.call c=>match aeG env c with
  |none=>none
  |some (f,as,cp)=>match σ.at (uX as)with
   |none=>none
   |some σa=>match uV σa 0 as with
    |none=>none
    |some avs=>bif r.closed then some (.y σa.ids r,(.fn f cp::avs,[]))else none
 |_=>none
def roE(env:Env)(raw:Nat)(σ σs:Sto)(r:AV):Op→Option (Stp×Obs)
 |.call c=>match pL env c with
  |none=>none
  |some (f,as)=>match σ.at (σs.ids++uX as)with
   |none=>none
   |some σa=>match uV σa raw as with
    |none=>none
    |some avs=>match σa.at σs.ids with
     |none=>none
     |some σs'=>bif r.closed&&σs.clean (λd=>!(σs.ids++[]).contains d)then some (.y σa.ids r,(.fn f []::avs,σs'))else none
 |_=>none
def leE(env:Env)(σ:Sto)(ds:List Nat)(r:AV):Op→Option (Stp×Obs)
 |.call c=>match pL env c with
  |none=>none
  |some (f,as)=>match σ.at ds with
   |none=>none
   |some σs=>match nL (uU 9 σs) as with
    |none=>none
    |some avs=>bif r.ic then some (.y σs.ids r,(.fn f []::avs,[]))else none
 |_=>none
def dcE(ids:List Nat)(env:Env)(σ σc:Sto)(news:List Nat)(r:AV)(σ2:Sto):Op→Option (Stp×Obs)
 |.call c=>match pL env c with
  |none=>none
  |some (f,as)=>match mF σc.ids σ as with
   |none=>none
   |some avs=>match σ.at σc.ids with
    |none=>none
    |some am4=>bif news.all (λd=>!ids.contains d&&(σ.get d).isNone)&&(σ.minus σc.ids).clean news.contains&&!r.refs (λd=>!(σc.ids++news).contains d)&&σ2.clean (λd=>!(σc.ids++news).contains d)then
      some (.e (σc.ids++news) news r (σ2++σ.minus σc.ids),(.fn f []::avs,am4))else none
 |_=>none
def dlE(ids:List Nat)(env:Env)(σ:Sto)(ds news:List Nat)(r:AV)(σ2:Sto):Op→Option (Stp×Obs)
 |.call c=>match pL env c with
  |none=>none
  |some (f,as)=>match σ.at ds with
   |none=>none
   |some σs=>match nL (uU 9 σs) as with
    |none=>none
    |some avs=>bif news.all (λd=>!ids.contains d&&(σ.get d).isNone)&&σ.clean news.contains&&r.oC&&!r.refs (λd=>!news.contains d)&&σ2.clean (λd=>!news.contains d)then some (.e news news r (σ2++σ),(.fn f []::avs,[]))else none
 |_=>none
def apE(tb:Tb)(ids:List Nat)(env:Env)(σ:Sto)(d2 sz bytes:Nat)(zs:List (List AV)):Op→Option (Stp×Obs)
 |.call c=>match c.callee with
  |.builtin b=>(match b with
   |.append=>(match c.args.toList with
    |[s,x]=>(match c.argTypes.toList with
     |[T,T2]=>(match tb.get T with
      |some ⟨_,_,_,.slice E sz' bytes' _⟩=>bif Nat.beq T T2&&Nat.beq sz' sz&&Nat.beq bytes' bytes&&!ids.contains d2 then(match env.evo x with
       |none=>none
       |some ax=>match eB [] σ ax with
        |some (.lst f ys)=>(match env.evo s with
         |some (.own d)=>(match σ.get d with
          |some (.slice T' oE xs k _)=>bif Nat.beq T' E&&Nat.beq oE sz&&(σ.minus [d]).clean [d2].contains then some (.e [d,d2] [d2] (.own d2) ((d2,.slice T' oE zs k false)::σ.minus [d]),([.lst false xs,.lst false ys],[]))else none
          |some (.win T' oE xs)=>bif Nat.beq T' E&&Nat.beq oE sz&&(σ.minus [d]).clean [d2].contains then some (.e [d,d2] [d2] (.own d2) ((d2,.win T' oE zs)::σ.minus [d]),([.lst false xs,.lst false ys],[]))else none
          |_=>none)
         |some .bI=>bif σ.clean [d2].contains then some (.e [d2] [d2] (.own d2) ((d2,.slice E sz' zs 0 false)::σ),([.lst false [],.lst false ys],[]))else none
         |some (.lst true xs)=>bif σ.clean [d2].contains&&Nat.blt 0 ys.length then some (.e [d2] [d2] (.own d2) ((d2,.slice E sz' zs 0 false)::σ),([.lst false xs,.lst false ys],[]))else none
         |_=>none)
        |_=>none)else none
      |_=>none)
     |_=>none)
    |_=>none)
   |_=>none)
  |_=>none
 |_=>none
def xO:AV→List Nat
 |.own d=>[d]
 |_=>[]
def slE(tb:Tb)(env:Env)(σ:Sto)(sz:Nat)(zs:List (List AV)):Op→Option (Stp×Obs)
 |.slice T x lo hi none=>match tb.get T with
  |some ⟨_,_,_,.slice _ sz' _ _⟩=>(match env.evo x with
   |none=>none
   |some ax=>match eB [] σ ax with
    |some (.lst f xs)=>(match rz env 0 lo with
     |none=>none
     |some a=>match rz env (xs.length:Int) hi with
      |none=>none
      |some b=>bif Nat.beq sz' sz then some (.y (xO ax) (.lst false zs),([.lst false xs,.int .i64 a,.int .i64 b],[]))else none)
    |_=>none)
  |_=>none
 |_=>none
def s3E(tb:Tb)(env:Env)(σ:Sto)(sz:Nat)(zs:List (List AV)):Op→Option (Stp×Obs)
 |.slice T x lo (some hi) (some mx)=>match tb.get T with
  |some ⟨_,_,_,.slice _ sz' _ _⟩=>(match env.evo x with
   |none=>none
   |some ax=>match eB [] σ ax with
    |some (.lst f xs)=>(match rz env 0 lo with
     |none=>none
     |some a=>match rz env (xs.length:Int) (some hi)with
      |none=>none
      |some b=>match rz env (xs.length:Int) (some mx)with
       |none=>none
       |some b2=>bif Nat.beq sz' sz then some (.y (xO ax) (.lst true zs),([.lst false xs,.int .i64 a,.int .i64 b,.int .i64 b2],[]))else none)
    |_=>none)
  |_=>none
 |_=>none
def wsE(tb:Tb)(ids:List Nat)(env:Env)(σ:Sto)(d2 sz:Nat)(zs:List (List AV)):Op→Option (Stp×Obs)
 |.slice T x lo none none=>match tb.get T with
  |some ⟨_,_,_,.slice _ sz' _ _⟩=>(match env.evo x with
   |some (.own d)=>(match σ.get d with
    |some (.win T' oE xs)=>(match rz env 0 lo with
     |none=>none
     |some a=>bif Nat.beq sz' sz&&Nat.beq oE sz&&!ids.contains d2&&(σ.minus [d]).clean [d2].contains then some (.e [d,d2] [d2] (.own d2) ((d2,.win T' oE zs)::σ.minus [d]),([.lst false xs,.int .i64 a],[]))else none)
    |_=>none)
   |_=>none)
  |_=>none
 |_=>none
def qrE(env:Env):Op→Option (Stp×Obs)
 |.binOp op _ x y _=>match env.evo x with
  |some (.int k m)=>(match env.evo y with
   |some (.int k' n)=>bif decide (k=k')then(match op with
    |.quo=>some (.y [] (.int k (k.wrap (m.tdiv n))),([.int .i64 n],[]))
    |.rem=>some (.y [] (.int k (m.tmod n)),([.int .i64 n],[]))
    |_=>none)else none
   |_=>none)
  |_=>none
 |_=>none
def shE(env:Env):Op→Option (Stp×Obs)
 |.binOp op _ x y _=>match env.evo x with
  |some (.int k m)=>(match env.evo y with
   |some (.int _ n)=>(match op with
    |.shl=>some (.y [] (.int k (k.wrap (m*2 ^ min n.toNat k.bits))),([.int .i64 n],[]))
    |.shr=>some (.y [] (.int k (m.fdiv (2 ^ min n.toNat k.bits))),([.int .i64 n],[]))
    |_=>none)
   |_=>none)
  |_=>none
 |_=>none
def aeH(tb:Tb)(env:Env)(b:UInt8):Op→Option (Stp×Obs)
 |.index T x y=>match tb.get T with
  |some ⟨_,_,_,.str⟩=>(match env.evo x with
   |some (.str s)=>(match env.evo y with
    |some (.int _ n)=>some (.y [] (.int .u8 (b.toNat:Int)),([.str s,.int .i64 n],[]))
    |_=>none)
   |_=>none)
  |_=>none
 |_=>none
def lkE(tb:Tb)(env:Env)(σ:Sto)(E:Nat)(k:IntKind)(a:AV)(b:Bool):Op→Option (Stp×Obs)
 |.lookup T x y ok=>match tb.get T with
  |some ⟨_,_,_,.map K E' k'⟩=>(match env.evo x with
   |some (.bX d)=>(match env.evo y with
    |some (.int k2 n)=>(match σ.get d with
     |some (.map K2 E2 aL)=>bif Nat.beq E' E&&decide (k'=k)&&decide (k2=k)&&Nat.beq K2 K&&Nat.beq E2 E' then some (.y [d] (bif ok then .tup [a,.bool b]else a),([.int .i64 n],[(0,.map 0 0 aL)]))else none
     |_=>none)
    |_=>none)
   |_=>none)
  |_=>none
 |_=>none
def muP(tb:Tb)(env:Env)(σ:Sto)(k:IntKind)(gQ:List (AV×AV))(T:Nat)(x y z:Operand):Option (Stp×Obs):=match tb.get T with
  |some ⟨_,_,_,.map K E' k'⟩=>(match env.evo x with
   |some (.bX d)=>(match env.evo y with
    |some (.int k2 n)=>(match env.evo z with
     |some v=>(match σ.get d with
      |some (.map K2 E2 aL)=>bif decide (k'=k)&&decide (k2=k)&&Nat.beq K2 K&&Nat.beq E2 E' then some (.e [d] [] .undef (σ.set d (.map K2 E2 gQ)),([.int .i64 n,v],[(0,.map 0 0 aL)]))else none
      |_=>none)
     |_=>none)
    |_=>none)
   |_=>none)
  |_=>none
def muE(tb:Tb)(env:Env)(σ:Sto)(k:IntKind)(gQ:List (AV×AV)):Op→Option (Stp×Obs)
 |.mapUpdate T x y z=>muP tb env σ k gQ T x y z
 |.insert T x y z=>muP tb env σ k gQ T x y z
 |_=>none
def lmE(tb:Tb)(env:Env)(σ:Sto)(k:IntKind)(n:Int):Op→Option (Stp×Obs)
 |.call c=>match c.callee with
  |.builtin b=>(match b with
   |.len=>(match c.args.toList with
    |[x]=>(match c.argTypes.toList with
     |[T]=>(match tb.get T with
      |some ⟨_,_,_,.map K E' k'⟩=>(match env.evo x with
       |some (.bX d)=>(match σ.get d with
        |some (.map K2 E2 aL)=>bif decide (k'=k)&&Nat.beq K2 K&&Nat.beq E2 E' then some (.y [d] (.int .i64 n),([],[(0,.map 0 0 aL)]))else none
        |_=>none)
       |_=>none)
      |_=>none)
     |_=>none)
    |_=>none)
   |_=>none)
  |_=>none
 |_=>none
def sqE(env:Env)(neg:Bool)(T:Nat)(r:Bool):Op→Option (Stp×Obs)
 |.binOp op T' x y _=>match env.evo x with
  |none=>none
  |some a=>match env.evo y with
   |none=>none
   |some b=>bif a.plain&&b.plain&&Nat.beq T' T then(match op with
    |.eql=>bif neg then none else some (.y [] (.bool r),([a,b],[]))
    |.neq=>bif neg then some (.y [] (.bool r),([a,b],[]))else none
    |_=>none)else none
 |_=>none
def snE(tb:Tb)(env:Env)(neg:Bool):Op→Option (Stp×Obs)
 |.binOp op T x y _=>match env.evo x with
  |none=>none
  |some a=>match env.evo y with
   |some .bI=>(match tb.get T with
    |some ⟨_,_,_,.slice _ _ _ _⟩=>(match op with
     |.eql=>bif neg then none else some (.y [] (.bool false),([a],[]))
     |.neq=>bif neg then some (.y [] (.bool true),([a],[]))else none
     |_=>none)
    |_=>none)
   |_=>none
 |_=>none
def puE(env:Env)(T T':Nat)(r:AV):Op→Option (Stp×Obs)
 |.convert S S' x=>match env.evo x with
  |none=>none
  |some a=>bif Nat.beq S T&&Nat.beq S' T' then some (.y [] r,([a],[]))else none
 |_=>none
def pbE(env:Env)(op:BinOp)(T:Nat)(r:AV):Op→Option (Stp×Obs)
 |.binOp op' S x y _=>match env.evo x with
  |none=>none
  |some a=>match env.evo y with
   |none=>none
   |some b=>bif decide (op'=op)&&Nat.beq S T then some (.y [] r,([a,b],[]))else none
 |_=>none
def uY{P:Program}(tb:Tb)(ids:List Nat)(o:Oper)(env:Env)(σ:Sto):Hint P→Option (Stp×Obs)
 |.au=>match auY tb env σ o.op with
  |some (R,av)=>some (.y R av,([],[]))
  |none=>match stE env σ tb o.op with
   |some s=>some (s,([],[]))
   |none=>none
 |.al d=>match alE tb ids env d o.op with|some s=>some (s,([],[]))|none=>none
 |.to h _ b _=>match uY tb ids o env σ h with
  |some (.y R av,ob)=>some (.y R b,(av::ob.1,ob.2))
  |_=>none
 |.ix sz _ _ row _=>ixE tb env σ sz row o.op
 |.lo d sz _ _ off row _=>loE tb env σ d sz off row o.op
 |.so d sz _ _ off _ zs _ k _=>soE tb env σ d sz off k zs o.op
 |.rf _ _ _ r _ _=>rfE env σ r o.op
 |.ro raw _ σs _ r _ _=>roE env raw σ σs r o.op
 |.le ds _ _ r _ _=>leE env σ ds r o.op
 |.dc news _ σc _ r σ2 _ _=>dcE ids env σ σc news r σ2 o.op
 |.dl ds news _ _ r σ2 _ _ _=>dlE ids env σ ds news r σ2 o.op
 |.gs _ _ f _=>f ids o.op env σ
 |.ap d2 sz bytes _ _ zs _=>apE tb ids env σ d2 sz bytes zs o.op
 |.sl sz _ _ _ zs _=>slE tb env σ sz zs o.op
 |.ws d2 sz _ _ zs _=>wsE tb ids env σ d2 sz zs o.op
 |.qr _ _=>qrE env o.op
 |.sh _ _=>shE env o.op
 |.is _ _ b _=>aeH tb env b o.op
 |.lk E k _ _ a b _=>lkE tb env σ E k a b o.op
 |.mu k _ _ _ gQ _=>muE tb env σ k gQ o.op
 |.lm k _ n _=>lmE tb env σ k n o.op
 |.sq neg T _ _ r _=>sqE env neg T r o.op
 |.sn neg _ _=>snE tb env neg o.op
 |.s3 sz _ _ _ zs _=>s3E tb env σ sz zs o.op
 |.pu T T' _ r _=>puE env T T' r o.op
 |.pb op T _ _ r _=>pbE env op T r o.op
theorem dU.mono{G:Gl}{o:Oper}{ev:Operand→AV}{σ:Sto}{M news:List Nat}{Φ Φ':AV→Sto→Prop}(h:dU G o ev σ M news Φ)(hp:∀a s,Φ a s→Φ' a s):dU G o ev σ M news Φ':=by
 intro cx I β w ρ hw hop;have:=h cx I β w ρ hw hop;generalize (execOp ρ o).run G.P w=r at this;cases r with
 |halt x w'=>exact this
 |ok n w'=>
  cases n<;>simp only[gK]at this ⊢
  ·obtain⟨a,s,I',β',q,q'⟩:=this;exact⟨a,s,I',β',hp _ _ q,q'⟩
  ·obtain⟨a,s,I',β',q,q'⟩:=this;exact⟨a,s,I',β',hp _ _ q,q'⟩
  ·exact Calls.mono this λ_ _ ⟨v,he,a,s,I',β',q,q'⟩=>⟨v,he,a,s,I',β',hp _ _ q,q'⟩
section
variable {P:Program}{N:Nat}{ids:List Nat}{tb:Tb}{o:Oper}{env:Env}{σ:Sto}
theorem am5(W:Wld P tb){s:Stp}(h:stE env σ tb o.op=some s):cz ⟨P,N,ids⟩ o env σ s:=by
 cases ho:o.op<;>rw[ho]at h<;>simp only[stE]at h
 case store T x y=>
  split at h
  ·cases h
  ·rename_i i hT;have hk:=(fm.get W.tys hT).ty;split at h
   ·rename_i d p hx;split at h
    ·cases h
    ·rename_i a hy;split at h
     ·rename_i T' cs hd;split at h
      ·cases h
      ·rename_i ca hca;generalize hb:(a.flat&&_&&_)=bb at h;cases bb with
       |false=>cases h
       |true=>
        simp only[cond_true]at h;simp only[Bool.and_eq_true]at hb;split at h
        ·cases h
        ·rename_i cs' hs;cases h
         exact⟨Z.wG ho (Env.aG hx) hk hy hd hb.1.1 hca hb.1.2 hb.2 hs,rfl⟩
     ·cases h
   ·cases h
 all_goals cases h
theorem am6(W:Wld P tb){d:Nat}{s:Stp}(h:alE tb ids env d o.op=some s):cz ⟨P,N,ids⟩ o env σ s:=by
 cases ho:o.op<;>rw[ho]at h
 case alloc T=>
  simp only[alE]at h;split at h
  ·rename_i sz ag zs kd hT;have hz:=(fm.get W.tys hT).ze _ rfl;split at h
   ·cases h
   ·rename_i cs hs;cases hi:ids.contains d with
    |true=>rw[hi]at h;cases h
    |false=>rw[hi]at h;cases h;exact⟨hi,Z.alloc ho hz (kR hs) hi⟩
  ·cases h
 case box T x=>
  simp only[alE]at h;split at h
  ·cases h
  ·rename_i a hx;split at h
   ·cases h
   ·rename_i cs hs;generalize hb:(a.flat&&_&&_)=bb at h;cases bb with
    |false=>cases h
    |true=>
     cases h;simp only[Bool.and_eq_true,Bool.not_eq_true']at hb;exact⟨hb.2,Z.box ho hx hb.1.1 hs hb.1.2 hb.2⟩
 case buildSlice T len parts=>
  simp only[alE]at h;split at h
  ·rename_i hT;have hk:=(fm.get W.tys hT).kd;simp only[kV]at hk;generalize hb:(Nat.beq parts.size len&&_&&_)=bb at h;cases bb with
   |false=>cases h
   |true=>
    simp only[cond_true]at h;simp only[Bool.and_eq_true,Bool.not_eq_true']at hb;split at h
    ·cases h
    ·rename_i ps hp;split at h
     ·cases h
     ·rename_i xs hf;cases hc:eO xs.flatten with
      |false=>rw[hc]at h;cases h
      |true=>
       rw[hc]at h;cases h
       exact⟨hb.2,(Y.adI ho hk.2.2 (by simpa using hb.1.1) (by simpa using hb.1.2) (by rw[←yR,Env.si hp];exact n9 _ hf) hc hb.2).off⟩
  ·cases h
 case makeMap T r=>
  cases r with
  |some r=>simp only[alE]at h;cases h
  |none=>
   simp only[alE]at h;split at h
   ·rename_i hT;cases hi:ids.contains d with
    |true=>rw[hi]at h;cases h
    |false=>rw[hi]at h;cases h;exact⟨hi,Y.makeMap ho hi⟩
   ·cases h
 all_goals (simp only[alE]at h;cases h)
theorem Y.af6{G:Gl}{T E sz:Nat}{x y:Operand}{k:IntKind}{i:Int}{f:Bool}{ev:Operand→AV}(xs:List (List AV))(h:o.op=.indexAddr T x y)(hx:ev x=.lst f xs)(hy:ev y=.int k i)(hT:SlS G.P T E sz)
  (hl:∀e∈xs,e.length=sz) (hi:0≤i∧i<xs.length):Yields G o ev σ [] [] (.cV (el xs i)):=
 .pure λσ' cx I β w ρ hR hw hop=>by
  have h1:=hop x (by simp[h,Op.operands]);rw[hx]at h1
  have h2:=hop y (by simp[h,Op.operands]);rw[hy]at h2;have h2:=de h2
  simp only[Rep,aB]at h1;obtain⟨a,c,h1,h3,h4,_,h5⟩:=h1;have hlt:i.toNat<xs.length:=by omega
  rcases h5 with h5|⟨b,p,rfl,h5⟩
  ·subst h5;simp at hlt
  ·have hrow:=zA (sz:=sz) _ p i.toNat hl h5 hlt;have mg:xs.getD i.toNat []=el xs i:=by
    simp[List.getD_eq_getElem?_getD,hlt,el]
   rw[mg]at hrow;refine⟨.pointer (some ⟨b,p+i.toNat*sz,none⟩),?_,by simp only[Rep,aB];exact⟨b,_,rfl,hrow⟩⟩;have e1:∀w,(underlying T).run G.P w=.ok (.slice E) w:=λw=>by simp[underlying,program,Sem.run,hT.und]
   simp[execOp,h,h1,h2,Instr.indexAt,asIntOf,e1,hi,hT.size,dY]
theorem am7(W:Wld P tb){sz:Nat}{xs:List (List AV)}{i:Int}{row:List AV}(pf:Ix sz xs i row){s:Stp}{ob:Obs}(h:ixE tb env σ sz row o.op=some (s,ob))(he:ob=([.lst false xs,.int .i64 i],[])):cz ⟨P,N,ids⟩ o env σ s:=by
 obtain⟨p1,p2,p3,p4⟩:=pf;cases ho:o.op<;>rw[ho]at h
 case indexAddr T x y=>
  simp only[ixE]at h;split at h
  ·rename_i sz' _ _ hT;have hk:=(fm.get W.tys hT).kd;simp only[kV]at hk;split at h
   ·rename_i k i' hy;split at h
    ·rename_i f xs' hx;split at h
     ·cases h
     ·rename_i r hr;cases hb:Nat.beq sz' sz with
      |false=>rw[hb]at h;cases h
      |true=>
       rw[hb]at h;cases h
       simp only[Prod.mk.injEq,List.cons.injEq,AV.lst.injEq,AV.int.injEq,and_true,true_and]at he;obtain⟨rfl,rfl⟩:=he;have:=Nat.eq_of_beq_eq_true hb;subst this;simp only[cz];rw[←kR hr,←p4];exact Y.af6 _ ho (Env.aG hx) (Env.aG hy) hk.1 p1 ⟨p2,p3⟩
    ·rename_i d hx;split at h
     ·rename_i T'' oE xs'' k'' fz'' hd;cases hb:(Nat.beq sz' sz&&Nat.beq oE sz)with
      |false=>rw[hb]at h;cases h
      |true=>
       rw[hb]at h;cases h
       rw[Bool.and_eq_true]at hb;simp only[Prod.mk.injEq,List.cons.injEq,AV.lst.injEq,AV.int.injEq,and_true,true_and]at he;obtain⟨rfl,rfl⟩:=he;have:=Nat.eq_of_beq_eq_true hb.1;subst this;have:=Nat.eq_of_beq_eq_true hb.2;subst this;exact Y.amr _ id ho (Env.aG hx) (Env.aG hy) (by rw[sI];exact hd) hk.1 ⟨p2,p3⟩
     ·rename_i xs' hd;split at h
      ·cases h
      ·rename_i r hr;cases hb:Nat.beq sz' sz with
       |false=>rw[hb]at h;cases h
       |true=>
        rw[hb]at h;cases h
        simp only[Prod.mk.injEq,List.cons.injEq,AV.lst.injEq,AV.int.injEq,and_true,true_and]at he;obtain⟨rfl,rfl⟩:=he;have:=Nat.eq_of_beq_eq_true hb;subst this;simp only[cz];rw[←kR hr,←p4];exact Yields.win hd (Y.af6 _ ho (abn (Env.aG hx)) (afS (Env.aG hy)) hk.1 p1 ⟨p2,p3⟩)
     ·cases h
    ·cases h
   ·cases h
  ·cases h
 all_goals (simp only[ixE]at h;cases h)
theorem am8(W:Wld P tb){d sz off:Nat}{xs:List (List AV)}{i:Int}{row:List AV}(pf:Ix sz xs i row){s:Stp}{ob:Obs}(h:loE tb env σ d sz off row o.op=some (s,ob))(he:ob=([.lst false xs,.ptr d (i.toNat*sz+off)],[])):cz ⟨P,N,ids⟩ o env σ s:=by
 obtain⟨p1,p2,p3,p4⟩:=pf;cases ho:o.op<;>rw[ho]at h
 case load T x=>
  simp only[loE]at h;split at h
  ·cases h
  ·rename_i ti hT;have hk:=(fm.get W.tys hT).ty;split at h
   ·rename_i d' p hx;split at h
    ·rename_i T' sz' xs' k fz hd;generalize hb:(Nat.beq d' d&&_&&_&&_)=bb at h;cases bb with
     |false=>cases h
     |true=>
      simp only[cond_true]at h;simp only[Bool.and_eq_true]at hb;obtain⟨⟨⟨b1,b2⟩,b3⟩,b4⟩:=hb;split at h
      ·cases h
      ·rename_i a ha;cases h;simp only[Prod.mk.injEq,List.cons.injEq,AV.lst.injEq,AV.ptr.injEq,and_true,true_and]at he;obtain⟨rfl,rfl,rfl⟩:=he;have:=Nat.eq_of_beq_eq_true b2;subst this;exact Y.ap7 (i:=i) _ id ho (Env.aG hx) (by rw[sI];exact hd) rfl ⟨p2,p3⟩ hk b3 b4 (by rw[id_eq,p4];exact ha)
    ·cases h
   ·cases h
 all_goals (simp only[loE]at h;cases h)
theorem am9(W:Wld P tb){d sz off k:Nat}{xs zs:List (List AV)}{i:Int}{ca:List AV}(pf:St sz xs i off ca zs)(hki:(k:Int)≤i){s:Stp}{ob:Obs}(h:soE tb env σ d sz off k zs o.op=some (s,ob))(he:ob=([.lst false xs,.ptr d (i.toNat*sz+off),.agg ca],[])):cz ⟨P,N,ids⟩ o env σ s:=by
 obtain⟨⟨p1,p2,p3,_⟩,p4⟩:=pf;cases ho:o.op<;>rw[ho]at h
 case store T x y=>
  simp only[soE]at h;split at h
  ·cases h
  ·rename_i ti hT;have hk:=(fm.get W.tys hT).ty;split at h
   ·rename_i d' p hx;split at h
    ·cases h
    ·rename_i a hy;split at h
     ·cases h
     ·rename_i ca' hca;split at h
      ·rename_i T' sz' xs' k' fz hd;generalize hb:(Nat.beq d' d&&_&&_&&_&&_&&_&&_)=bb at h;cases bb with
       |false=>cases h
       |true=>
        simp only[cond_true]at h;simp only[Bool.and_eq_true]at hb;obtain⟨⟨⟨⟨⟨⟨b1,b2⟩,b3⟩,b4⟩,b5⟩,b6⟩,b7⟩:=hb;cases h;simp only[Prod.mk.injEq,List.cons.injEq,AV.lst.injEq,AV.ptr.injEq,AV.agg.injEq,and_true,true_and]at he;obtain⟨rfl,⟨rfl,rfl⟩,rfl⟩:=he;have:=Nat.eq_of_beq_eq_true b2;subst this;have:=Nat.eq_of_beq_eq_true b3;subst this;have hD:=D.ams (G:=⟨P,N,ids⟩) (i:=i) (ev:=λx=>lJ (env.ev x)) xs' id (cG (el xs' i) off ca') ho (show lJ (env.ev x)=_ by rw[Env.aG hx];rfl) (show lJ (env.ev y)=_ by rw[Env.aG hy]) (by rw[sI];exact hd) rfl ⟨p2,p3⟩ hki hk b4 hca b5 b6 b7 rfl;rw[sI,←p4]at hD;exact⟨hD.off,rfl⟩
      ·cases h
   ·cases h
 all_goals (simp only[soE]at h;cases h)
theorem ana{raw:Nat}{f:FuncId}{σs:Sto}{avs:List AV}{r:AV}(pf:RO P f σs avs r)(hc:aO P f){s:Stp}{ob:Obs}(h:roE env raw σ σs r o.op=some (s,ob))(he:ob=(.fn f []::avs,σs)):cz ⟨P,N,ids⟩ o env σ s:=by
 cases ho:o.op<;>rw[ho]at h
 case call c=>
  simp only[roE]at h;split at h
  ·cases h
  ·rename_i f' as ha;obtain⟨fo,args,k,cap,ps,rfl,hf,hp,rfl⟩:=oD ha;split at h
   ·cases h
   ·rename_i σa hat;split at h
    ·cases h
    ·rename_i wO hs;split at h
     ·cases h
     ·rename_i σs' acw;generalize hb:(r.closed&&_)=bb at h;cases bb with
      |false=>cases h
      |true=>
       rw[Bool.and_eq_true]at hb;cases h;simp only[Prod.mk.injEq,List.cons.injEq,AV.fn.injEq,and_true]at he;obtain⟨⟨rfl,rfl⟩,rfl⟩:=he;exact Z.call (G:=⟨P,N,ids⟩) (σs:=σa) (σc:=σs') ho hf hc.h pf hp (uW hs) (Sto.iQ hat).1 (Sto.iQ acw).1 hb.1 hb.2
 all_goals (simp only[roE]at h;cases h)
theorem anb{f:FuncId}{caps avs:List AV}{r:AV}(pf:RO P f [] (avs++caps) r)(hc:aO P f){s:Stp}{ob:Obs}(h:rfE env σ r o.op=some (s,ob))(he:ob=(.fn f caps::avs,[])):cz ⟨P,N,ids⟩ o env σ s:=by
 cases ho:o.op<;>rw[ho]at h
 case call c=>
  simp only[rfE]at h;split at h
  ·cases h
  ·rename_i f' as cp ha;obtain⟨fo,args,k,rfl,hf,hp⟩:=ahI ha;split at h
   ·cases h
   ·rename_i σa hat;split at h
    ·cases h
    ·rename_i wO hs;cases hb:r.closed with
     |false=>rw[hb]at h;cases h
     |true=>
      rw[hb]at h;cases h;simp only[Prod.mk.injEq,List.cons.injEq,AV.fn.injEq,and_true]at he;obtain⟨⟨rfl,rfl⟩,rfl⟩:=he;exact Y.arl (G:=⟨P,N,ids⟩) (σs:=σa) ho hf hc.h (Sto.iQ hat).1.mem (by rw[Env.oQ hp];exact uW hs) pf hb
 all_goals (simp only[rfE]at h;cases h)
theorem anc{ds:List Nat}{f:FuncId}{avs:List AV}{r:AV}(pf:RO P f [] avs r)(hc:aO P f){s:Stp}{ob:Obs}(h:leE env σ ds r o.op=some (s,ob))(he:ob=(.fn f []::avs,[])):cz ⟨P,N,ids⟩ o env σ s:=by
 cases ho:o.op<;>rw[ho]at h
 case call c=>
  simp only[leE]at h;split at h
  ·cases h
  ·rename_i f' as ha;obtain⟨fo,args,k,cap,ps,rfl,hf,hp,rfl⟩:=oD ha;split at h
   ·cases h
   ·rename_i σa hat;split at h
    ·cases h
    ·rename_i wO hs;cases hb:r.ic with
     |false=>rw[hb]at h;cases h
     |true=>
      rw[hb]at h;cases h;simp only[Prod.mk.injEq,List.cons.injEq,AV.fn.injEq,and_true]at he;obtain⟨rfl,rfl⟩:=he;exact Y.shot (G:=⟨P,N,ids⟩) (σs:=σa) 9 ho hf hc.h pf hp hs (Sto.iQ hat).1 hb
 all_goals (simp only[leE]at h;cases h)
theorem ane{news:List Nat}{f:FuncId}{σc σ2:Sto}{avs:List AV}{r:AV}(pf:b9 P f σc avs (λa σ'=>a=r∧σ'=σ2))(hc:aO P f){s:Stp}{ob:Obs}(h:dcE ids env σ σc news r σ2 o.op=some (s,ob))(he:ob=(.fn f []::avs,σc)):cz ⟨P,N,ids⟩ o env σ s:=by
 cases ho:o.op<;>rw[ho]at h
 case call c=>
  simp only[dcE]at h;split at h
  ·cases h
  ·rename_i f' as ha;obtain⟨fo,args,k,cap,ps,rfl,hf,hp,rfl⟩:=oD ha;split at h
   ·cases h
   ·rename_i wO hs;split at h
    ·cases h
    ·rename_i am4 hat;generalize hb:(news.all _&&_&&_&&_)=bb at h;cases bb with
     |false=>cases h
     |true=>
      simp only[Bool.and_eq_true,Bool.not_eq_true']at hb;obtain⟨⟨⟨b1,b2⟩,b3⟩,b4⟩:=hb;cases h;simp only[Prod.mk.injEq,List.cons.injEq,AV.fn.injEq,and_true]at he;obtain⟨⟨rfl,rfl⟩,rfl⟩:=he;refine⟨?_,by rw[List.all_eq_true]at b1 ⊢;exact λd hd=>((Bool.and_eq_true _ _).mp (b1 d hd)).1⟩;have hD:=Z.ajf (G:=⟨P,N,ids⟩) (σ:=σ) news ho hf hc.h pf hp (nv hs) (Sto.iQ hat).1 b1 b2 (λr' σ2' hh=>by obtain⟨rfl,rfl⟩:=hh;exact⟨b3,b4⟩);exact hD.mono λa s ⟨σ2',⟨h1,h2⟩,h3⟩=>⟨h1,by rw[h3,h2]⟩
 all_goals (simp only[dcE]at h;cases h)
theorem anf{ds news:List Nat}{f:FuncId}{σ2:Sto}{avs:List AV}{r:AV}(pf:b9 P f [] avs (λa σ'=>a=r∧σ'=σ2))(hc:aO P f)(fl:rO σ2){s:Stp}{ob:Obs}(h:dlE ids env σ ds news r σ2 o.op=some (s,ob))(he:ob=(.fn f []::avs,[])):cz ⟨P,N,ids⟩ o env σ s:=by
 cases ho:o.op<;>rw[ho]at h
 case call c=>
  simp only[dlE]at h;split at h
  ·cases h
  ·rename_i f' as ha;obtain⟨fo,args,k,cap,ps,rfl,hf,hp,rfl⟩:=oD ha;split at h
   ·cases h
   ·rename_i σa hat;split at h
    ·cases h
    ·rename_i wO hs;generalize hb:(news.all _&&_&&_&&_&&_)=bb at h;cases bb with
     |false=>cases h
     |true=>
      simp only[Bool.and_eq_true,Bool.not_eq_true']at hb;obtain⟨⟨⟨⟨b1,b2⟩,b3⟩,b4⟩,b5⟩:=hb;cases h;simp only[Prod.mk.injEq,List.cons.injEq,AV.fn.injEq,and_true]at he;obtain⟨rfl,rfl⟩:=he;exact⟨D.ahh (G:=⟨P,N,ids⟩) (σs:=σa) 9 news ho hf hc.h pf hp hs (Sto.iQ hat).1 b1 b2 b3 b4 b5 fl,by rw[List.all_eq_true]at b1 ⊢;exact λd hd=>((Bool.and_eq_true _ _).mp (b1 d hd)).1⟩
 all_goals (simp only[dlE]at h;cases h)
theorem ang(W:Wld P tb){d2 sz bytes:Nat}{xs ys zs:List (List AV)}(pf:Ap sz bytes xs ys zs){s:Stp}{ob:Obs}(h:apE tb ids env σ d2 sz bytes zs o.op=some (s,ob))(he:ob=([.lst false xs,.lst false ys],[])):cz ⟨P,N,ids⟩ o env σ s:=by
 obtain⟨p0,p1,p2,p3,p4,p5⟩:=pf;cases ho:o.op<;>rw[ho]at h
 case call c=>
  obtain⟨cl,args,tys⟩:=c;simp only[apE]at h;split at h
  ·split at h
   ·split at h
    ·rename_i s0 x0 hx0;have:args=#[s0,x0]:=Array.toList_inj.1 (by simpa using hx0);subst this;split at h
     ·rename_i T T2 hT0;have:tys=#[T,T2]:=Array.toList_inj.1 (by simpa using hT0);subst this;split at h
      ·rename_i E sz' bytes' zs' hT;have hk:=(fm.get W.tys hT).kd;simp only[kV]at hk;generalize hb:(Nat.beq T T2&&_&&_&&_)=bb at h;cases bb with
       |false=>cases h
       |true=>
        simp only[cond_true]at h;simp only[Bool.and_eq_true,Bool.not_eq_true']at hb;obtain⟨⟨⟨b1,b2⟩,b3⟩,b4⟩:=hb;have:=Nat.eq_of_beq_eq_true b1;subst this;have:=Nat.eq_of_beq_eq_true b2;subst this;have:=Nat.eq_of_beq_eq_true b3;subst this;split at h
        ·cases h
        ·rename_i ax hx;split at h
         ·rename_i f ys' hs;have hse:eT σ (env.ev x0) (.lst f ys'):=by rw[Env.aG hx];exact iC hs
          split at h
          ·rename_i d hs0;split at h
           ·rename_i T' oE xs' k fz hd;generalize hb2:(Nat.beq T' E&&_&&_)=bb at h;cases bb with
            |false=>cases h
            |true=>
             simp only[cond_true]at h;simp only[Bool.and_eq_true]at hb2;obtain⟨⟨c1,c2⟩,c3⟩:=hb2;have:=Nat.eq_of_beq_eq_true c1;subst this;have:=Nat.eq_of_beq_eq_true c2;subst this;cases h;simp only[Prod.mk.injEq,List.cons.injEq,AV.lst.injEq,and_true,true_and]at he;obtain⟨rfl,rfl⟩:=he;refine⟨?_,by simpa using b4⟩;rw[←p0];exact D.append (G:=⟨P,N,ids⟩) ho (Env.aG hs0) hd hse hk.2.1 rfl p2 p3 p4 p5 b4 c3
           ·rename_i T' oE xs' hd;generalize hb2:(Nat.beq T' E&&_&&_)=bb at h;cases bb with
            |false=>cases h
            |true=>
             simp only[cond_true]at h;simp only[Bool.and_eq_true]at hb2;obtain⟨⟨c1,c2⟩,c3⟩:=hb2;have:=Nat.eq_of_beq_eq_true c1;subst this;have:=Nat.eq_of_beq_eq_true c2;subst this;cases h;simp only[Prod.mk.injEq,List.cons.injEq,AV.lst.injEq,and_true,true_and]at he;obtain⟨rfl,rfl⟩:=he;refine⟨?_,by simpa using b4⟩;rw[←p0];exact D.akk (G:=⟨P,N,ids⟩) ho (Env.aG hs0) hd hse hk.2.1 rfl p2 p3 p4 p5 b4 c3
           ·cases h
          ·rename_i hs0;generalize hb2:(Sto.clean _ _)=bb at h;cases bb with
           |false=>cases h
           |true=>
            cases h;simp only[Prod.mk.injEq,List.cons.injEq,AV.lst.injEq,and_true,true_and]at he;obtain⟨rfl,rfl⟩:=he;refine⟨?_,by simpa using b4⟩;rw[←p0];exact D.aat (G:=⟨P,N,ids⟩) ho (.inl ⟨Env.aG hs0,rfl⟩) hse hk.2.1 p1 p2 p3 p4 p5 b4 hb2
          ·rename_i xs' hs0;generalize hb2:(Sto.clean _ _&&_)=bb at h;cases bb with
           |false=>cases h
           |true=>
            cases h;rw[Bool.and_eq_true]at hb2;simp only[Prod.mk.injEq,List.cons.injEq,AV.lst.injEq,and_true,true_and]at he;obtain⟨rfl,rfl⟩:=he;refine⟨?_,by simpa using b4⟩;rw[←p0];exact D.aat (G:=⟨P,N,ids⟩) ho (.inr ⟨Env.aG hs0,(Iff.of_eq Nat.blt_eq).1 hb2.2⟩) hse hk.2.1 p1 p2 p3 p4 p5 b4 hb2.1
          ·cases h
         ·cases h
      ·cases h
     ·cases h
    ·cases h
   ·cases h
  ·cases h
 all_goals (simp only[apE]at h;cases h)
theorem anh(W:Wld P tb){d2 sz:Nat}{xs zs:List (List AV)}{a:Int}(pf:Sl sz xs a xs.length zs){s:Stp}{ob:Obs}(h:wsE tb ids env σ d2 sz zs o.op=some (s,ob))(he:ob=([.lst false xs,.int .i64 a],[])):cz ⟨P,N,ids⟩ o env σ s:=by
 obtain⟨p1,p2,p3⟩:=pf;cases ho:o.op<;>rw[ho]at h
 case slice T x lo hi mx=>
  cases hi with
  |some m=>cases mx<;>simp only[wsE]at h<;>cases h
  |none=>
  cases mx with
  |some m=>simp only[wsE]at h;cases h
  |none=>
   simp only[wsE]at h;split at h
   ·rename_i sz' _ _ hT;have hk:=(fm.get W.tys hT).kd;simp only[kV]at hk;split at h
    ·rename_i d hx;split at h
     ·rename_i T' oE xs' hd;split at h
      ·cases h
      ·rename_i a' ha;generalize hb:(Nat.beq sz' sz&&_&&_&&_)=bb at h;cases bb with
       |false=>cases h
       |true=>
        simp only[cond_true]at h;simp only[Bool.and_eq_true,Bool.not_eq_true']at hb;obtain⟨⟨⟨b1,b2⟩,b3⟩,b4⟩:=hb;have:=Nat.eq_of_beq_eq_true b1;subst this;have:=Nat.eq_of_beq_eq_true b2;subst this;cases h;simp only[Prod.mk.injEq,List.cons.injEq,AV.lst.injEq,AV.int.injEq,and_true,true_and]at he;obtain⟨rfl,rfl⟩:=he;obtain⟨q1,q2⟩:=aaw ha;refine⟨?_,by simpa using b3⟩;have hD:=D.amt (G:=⟨P,N,ids⟩) (d2:=d2) ho (Env.aG hx) hd hk.1 q1 (by rw[q2];exact⟨p2.1,p2.2.1⟩) b3 b4;rw[q2]at hD;rw[←p3];simpa using hD
     ·cases h
    ·cases h
   ·cases h
 all_goals (simp only[wsE]at h;cases h)
theorem ani(W:Wld P tb){sz:Nat}{xs zs:List (List AV)}{a b:Int}(pf:Sl sz xs a b zs){s:Stp}{ob:Obs}(h:slE tb env σ sz zs o.op=some (s,ob))(he:ob=([.lst false xs,.int .i64 a,.int .i64 b],[])):cz ⟨P,N,ids⟩ o env σ s:=by
 obtain⟨p1,p2,p3⟩:=pf;cases ho:o.op<;>rw[ho]at h
 case slice T x lo hi mx=>
  cases mx with
  |some m=>simp only[slE]at h;cases h
  |none=>
   simp only[slE]at h;split at h
   ·rename_i sz' _ _ hT;have hk:=(fm.get W.tys hT).kd;simp only[kV]at hk;split at h
    ·cases h
    ·rename_i ax hx;split at h
     ·rename_i f xs' hs;split at h
      ·cases h
      ·rename_i a' ha;split at h
       ·cases h
       ·rename_i b' hb';cases hb:Nat.beq sz' sz with
        |false=>rw[hb]at h;cases h
        |true=>
         rw[hb]at h;cases h
         simp only[Prod.mk.injEq,List.cons.injEq,AV.lst.injEq,AV.int.injEq,and_true,true_and]at he;obtain⟨rfl,rfl,rfl⟩:=he;have:=Nat.eq_of_beq_eq_true hb;subst this;obtain⟨q1,q2⟩:=aaw ha;obtain⟨q3,q4⟩:=aax hb'
         have hY:=Y.slice (G:=⟨P,N,ids⟩) (σ:=σ) ho (by rw[Env.aG hx];exact iC hs) hk.1 p1 q1 q3 (by rw[q2,q4];exact p2) (xO ax) (λσ' hR=>by
          rw[Env.aG hx];have:eB [] σ' ax=some (.lst f xs'):=by
           cases ax
           case own d=>simp only[eB]at hs ⊢;rw[hR _ (by simp[xO])];exact hs
           case lst b l=>cases b<;>exact hs
           case bX d=>simp only[eB]at hs;split at hs<;>first|cases hs|(split at hs<;>cases hs)
           case agg l=>simp only[eB]at hs;split at hs<;>cases hs
           case tup l=>simp only[eB]at hs;split at hs<;>cases hs
           case fn f l=>simp only[eB]at hs;split at hs<;>cases hs
           all_goals exact hs
          exact iC this)
         rw[q2,q4,p3]at hY;exact hY
     ·cases h
   ·cases h
 all_goals (simp only[slE]at h;cases h)
theorem anj{n:Int}(pf:n≠0){s:Stp}{ob:Obs}(h:qrE env o.op=some (s,ob))(he:ob=([.int .i64 n],[])):cz ⟨P,N,ids⟩ o env σ s:=by
 cases ho:o.op<;>rw[ho]at h
 case binOp op T x y T'=>
  simp only[qrE]at h;split at h
  ·rename_i k m hx;split at h
   ·rename_i k' n' hy;cases hkk:decide (k=k')with
    |false=>rw[hkk]at h;cases h
    |true=>
     rw[hkk]at h;simp only[cond_true]at h;have:=of_decide_eq_true hkk;subst this;split at h
     ·cases h;simp only[Prod.mk.injEq,List.cons.injEq,AV.int.injEq,and_true,true_and]at he;subst he;exact Y.quoW ho (Env.aG hx) (Env.aG hy) pf
     ·cases h;simp only[Prod.mk.injEq,List.cons.injEq,AV.int.injEq,and_true,true_and]at he;subst he;exact Y.rem ho (Env.aG hx) (Env.aG hy) pf
     ·cases h
   ·cases h
  ·cases h
 all_goals (simp only[qrE]at h;cases h)
theorem ank{n:Int}(pf:0≤n){s:Stp}{ob:Obs}(h:shE env o.op=some (s,ob))(he:ob=([.int .i64 n],[])):cz ⟨P,N,ids⟩ o env σ s:=by
 cases ho:o.op<;>rw[ho]at h
 case binOp op T x y T'=>
  simp only[shE]at h;split at h
  ·rename_i k m hx;split at h
   ·rename_i k' n' hy;split at h
    ·cases h;simp only[Prod.mk.injEq,List.cons.injEq,AV.int.injEq,and_true,true_and]at he;subst he;exact Y.shift (op:=.shl) (.inl rfl) ho (Env.aG hx) (Env.aG hy) pf
    ·cases h;simp only[Prod.mk.injEq,List.cons.injEq,AV.int.injEq,and_true,true_and]at he;subst he;exact Y.shift (op:=.shr) (.inr rfl) ho (Env.aG hx) (Env.aG hy) pf
    ·cases h
   ·cases h
  ·cases h
 all_goals (simp only[shE]at h;cases h)
theorem alq(W:Wld P tb){s0:ByteArray}{n:Int}{b:UInt8}(pf:0≤n∧s0[n.toNat]?=some b){s:Stp}{ob:Obs}(h:aeH tb env b o.op=some (s,ob))(he:ob=([.str s0,.int .i64 n],[])):cz ⟨P,N,ids⟩ o env σ s:=by
 cases ho:o.op<;>rw[ho]at h
 case index T x y=>
  simp only[aeH]at h;split at h
  ·rename_i hT;have hk:=(fm.get W.tys hT).kd;simp only[kV]at hk;split at h
   ·rename_i s' hx;split at h
    ·rename_i k n' hy;cases h;simp only[Prod.mk.injEq,List.cons.injEq,AV.str.injEq,AV.int.injEq,and_true,true_and]at he;obtain⟨rfl,rfl⟩:=he;exact Y.amp ho (Env.aG hx) (Env.aG hy) hk pf.1 pf.2
    ·cases h
   ·cases h
  ·cases h
 all_goals (simp only[aeH]at h;cases h)
theorem anl(W:Wld P tb){E:Nat}{k:IntKind}{aL:List (AV×AV)}{n:Int}{a:AV}{b:Bool}(pf:Lk P E k aL n a b){s:Stp}{ob:Obs}(h:lkE tb env σ E k a b o.op=some (s,ob))(he:ob=([.int .i64 n],[(0,.map 0 0 aL)])):cz ⟨P,N,ids⟩ o env σ s:=by
 obtain⟨α,l,enc,z,rfl,rfl,rfl,hz⟩:=pf;cases ho:o.op<;>rw[ho]at h
 case lookup T x y ok=>
  simp only[lkE]at h;split at h
  ·rename_i K E' k' hT;have hk:=(fm.get W.tys hT).kd;simp only[kV]at hk;split at h
   ·rename_i d hx;split at h
    ·rename_i k2 n' hy;split at h
     ·rename_i K2 E2 gQ hd;generalize hb:(Nat.beq E' E&&_&&_&&_&&_)=bb at h;cases bb with
      |false=>cases h
      |true=>
       simp only[Bool.and_eq_true]at hb;obtain⟨⟨⟨⟨b1,b2⟩,b3⟩,b4⟩,b5⟩:=hb;have:=Nat.eq_of_beq_eq_true b1;subst this;have:=of_decide_eq_true b2;subst this;have:=of_decide_eq_true b3;subst this;have:=Nat.eq_of_beq_eq_true b4;subst this;have:=Nat.eq_of_beq_eq_true b5;subst this;cases h;simp only[Prod.mk.injEq,List.cons.injEq,AV.int.injEq,br.map.injEq,and_true,true_and]at he;obtain⟨rfl,rfl⟩:=he;exact Y.lookup l enc z ho (Env.aG hx) (Env.aG hy) hd hk hz
     ·cases h
    ·cases h
   ·cases h
  ·cases h
 all_goals (simp only[lkE]at h;cases h)
theorem af7(W:Wld P tb){k:IntKind}{aL gQ:List (AV×AV)}{n:Int}{v:AV}(pf:Mu k aL n v gQ){T:Nat}{x y z:Operand}(ho:o.op=.mapUpdate T x y z∨o.op=.insert T x y z){s:Stp}{ob:Obs}(h:muP tb env σ k gQ T x y z=some (s,ob))(he:ob=([.int .i64 n,v],[(0,.map 0 0 aL)])):cz ⟨P,N,ids⟩ o env σ s:=by
 obtain⟨α,l,enc,q,rfl,rfl,hc,rfl⟩:=pf;simp only[muP]at h;split at h
 ·rename_i K E' k' hT;have hk:=(fm.get W.tys hT).kd;simp only[kV]at hk;split at h
  ·rename_i d hx;split at h
   ·rename_i k2 n' hy;split at h
    ·rename_i v' hz;split at h
     ·rename_i K2 E2 gQ hd;generalize hb:(decide (k'=k)&&_&&_&&_)=bb at h;cases bb with
      |false=>cases h
      |true=>
       simp only[Bool.and_eq_true]at hb;obtain⟨⟨⟨b2,b3⟩,b4⟩,b5⟩:=hb;have:=of_decide_eq_true b2;subst this;have:=of_decide_eq_true b3;subst this;have:=Nat.eq_of_beq_eq_true b4;subst this;have:=Nat.eq_of_beq_eq_true b5;subst this;cases h;simp only[Prod.mk.injEq,List.cons.injEq,AV.int.injEq,br.map.injEq,and_true,true_and]at he;obtain⟨⟨rfl,rfl⟩,rfl⟩:=he;exact⟨D.mapUpdate l enc q ho (Env.aG hx) (Env.aG hy) (Env.aG hz) hc hd hk,rfl⟩
     ·cases h
    ·cases h
   ·cases h
  ·cases h
 ·cases h
theorem anm(W:Wld P tb){k:IntKind}{aL gQ:List (AV×AV)}{n:Int}{v:AV}(pf:Mu k aL n v gQ){s:Stp}{ob:Obs}(h:muE tb env σ k gQ o.op=some (s,ob))(he:ob=([.int .i64 n,v],[(0,.map 0 0 aL)])):cz ⟨P,N,ids⟩ o env σ s:=by
 cases ho:o.op<;>rw[ho]at h
 case mapUpdate T x y z=>exact af7 W pf (.inl ho) h he
 case insert T x y z=>exact af7 W pf (.inr ho) h he
 all_goals (simp only[muE]at h;cases h)
theorem ann(W:Wld P tb){k:IntKind}{aL:List (AV×AV)}{n:Int}(pf:Lm k aL n){s:Stp}{ob:Obs}(h:lmE tb env σ k n o.op=some (s,ob))(he:ob=([],[(0,.map 0 0 aL)])):cz ⟨P,N,ids⟩ o env σ s:=by
 obtain⟨α,l,enc,rfl,rfl⟩:=pf;cases ho:o.op<;>rw[ho]at h
 case call c=>
  obtain⟨cl,args,tys⟩:=c;simp only[lmE]at h;split at h
  ·split at h
   ·split at h
    ·rename_i x hx0;have:args=#[x]:=Array.toList_inj.1 (by simpa using hx0);subst this;split at h
     ·rename_i T hT0;have:tys=#[T]:=Array.toList_inj.1 (by simpa using hT0);subst this;split at h
      ·rename_i K E' k' hT;have hk:=(fm.get W.tys hT).kd;simp only[kV]at hk;split at h
       ·rename_i d hx;split at h
        ·rename_i K2 E2 gQ hd;generalize hb:(decide (k'=k)&&_&&_)=bb at h;cases bb with
         |false=>cases h
         |true=>
          simp only[Bool.and_eq_true]at hb;obtain⟨⟨b2,b4⟩,b5⟩:=hb;have:=of_decide_eq_true b2;subst this;have:=Nat.eq_of_beq_eq_true b4;subst this;have:=Nat.eq_of_beq_eq_true b5;subst this;cases h;simp only[Prod.mk.injEq,List.cons.injEq,br.map.injEq,and_true,true_and]at he;subst he;exact Y.lenM l enc ho rfl (Env.aG hx) hd hk.und
        ·cases h
       ·cases h
      ·cases h
     ·cases h
    ·cases h
   ·cases h
  ·cases h
 all_goals (simp only[lmE]at h;cases h)
theorem ano{neg:Bool}{T:Nat}{a b:AV}{r:Bool}(pf:∀(x y:Operand) w,(do eqGuard (bif neg then .neq else .eql) T x y (valOf a) (valOf b);binOp (bif neg then .neq else .eql) T (valOf a) (valOf b):Sem Value).run P w=.ok (.bool r) w)
  {s:Stp} {ob:Obs} (h:sqE env neg T r o.op=some (s,ob)) (he:ob=([a,b],[])):cz ⟨P,N,ids⟩ o env σ s:=by
 cases ho:o.op<;>rw[ho]at h
 case binOp op T' x y T2=>
  simp only[sqE]at h;split at h
  ·cases h
  ·rename_i a' hx;split at h
   ·cases h
   ·rename_i b' hy;generalize hb:(a'.plain&&_&&_)=bb at h;cases bb with
    |false=>cases h
    |true=>
     simp only[cond_true]at h;simp only[Bool.and_eq_true]at hb;have:=Nat.eq_of_beq_eq_true hb.2;subst this;split at h
     ·cases neg with
      |true=>cases h
      |false=>
       cases h;simp only[Prod.mk.injEq,List.cons.injEq,and_true]at he;obtain⟨rfl,rfl⟩:=he;exact Y.seql ho (Env.aG hx) (Env.aG hy) hb.1.1 hb.1.2 (pf x y)
     ·cases neg with
      |false=>cases h
      |true=>
       cases h;simp only[Prod.mk.injEq,List.cons.injEq,and_true]at he;obtain⟨rfl,rfl⟩:=he;exact Y.sneq ho (Env.aG hx) (Env.aG hy) hb.1.1 hb.1.2 (pf x y)
     ·cases h
 all_goals (simp only[sqE]at h;cases h)
theorem anp{T T':Nat}{a r:AV}(pf:∀(o:Oper) (N:Nat) (ids:List Nat) (ev:Operand→AV) (σ:Sto) (x:Operand),o.op=.convert T T' x→ev x=a→Yields ⟨P,N,ids⟩ o ev σ [] [] r){s:Stp}{ob:Obs}(h:puE env T T' r o.op=some (s,ob))(he:ob=([a],[])):cz ⟨P,N,ids⟩ o env σ s:=by
 cases ho:o.op<;>rw[ho]at h
 case convert S S' x=>
  simp only[puE]at h;split at h
  ·cases h
  ·rename_i a' hx;generalize hb:(Nat.beq S T&&_)=bb at h;cases bb with
   |false=>cases h
   |true=>
    simp only[cond_true]at h;simp only[Bool.and_eq_true]at hb;have h1:=Nat.eq_of_beq_eq_true hb.1;have h2:=Nat.eq_of_beq_eq_true hb.2;subst h1;subst h2
    cases h;simp only[Prod.mk.injEq,List.cons.injEq,and_true]at he;subst he;exact pf o N ids env.ev σ x ho (Env.aG hx)
 all_goals (simp only[puE]at h;cases h)
theorem anq{op:BinOp}{T:Nat}{a b r:AV}(pf:∀(o:Oper) (N:Nat) (ids:List Nat) (ev:Operand→AV) (σ:Sto) (x y:Operand) (T':Nat),o.op=.binOp op T x y T'→ev x=a→ev y=b→Yields ⟨P,N,ids⟩ o ev σ [] [] r){s:Stp}{ob:Obs}(h:pbE env op T r o.op=some (s,ob))(he:ob=([a,b],[])):cz ⟨P,N,ids⟩ o env σ s:=by
 cases ho:o.op<;>rw[ho]at h
 case binOp op' S x y T'=>
  simp only[pbE]at h;split at h
  ·cases h
  ·rename_i a' hx;split at h
   ·cases h
   ·rename_i b' hy;generalize hb:(decide (op'=op)&&_)=bb at h;cases bb with
    |false=>cases h
    |true=>
     simp only[cond_true]at h;simp only[Bool.and_eq_true]at hb;have h1:=of_decide_eq_true hb.1;have h2:=Nat.eq_of_beq_eq_true hb.2;subst h1;subst h2
     cases h;simp only[Prod.mk.injEq,List.cons.injEq,and_true]at he;obtain⟨rfl,rfl⟩:=he;exact pf o N ids env.ev σ x y T' ho (Env.aG hx) (Env.aG hy)
 all_goals (simp only[pbE]at h;cases h)
theorem Y.slice3{G:Gl}{ev:Operand→AV}{T E sz:Nat}{x hi mx:Operand}{f:Bool}{lo:Option Operand}{xs:List (List AV)}{u:Int}(h:o.op=.slice T x lo (some hi) (some mx))(hx:eT σ (ev x) (.lst f xs))(hT:SlS G.P T E sz)(hlen:∀e∈xs,e.length=sz)(ilo:nZ ev lo)
  (ihi:nZ ev (some hi)) (imx:nZ ev (some mx)) (eu:pF ev xs.length (some hi)=u) (em:pF ev xs.length (some mx)=u)
  (hlo:0≤jC ev lo∧jC ev lo≤u∧u≤xs.length) (R:List Nat) (hR:∀σ':Sto,(∀d∈R,σ'.get d=σ.get d)→eT σ' (ev x) (.lst f xs)) :
  Yields G o ev σ [] R (.lst true ((xs.take u.toNat).drop (jC ev lo).toNat)):=
 .pure λσ' cx I β w ρ hRR hw hop=>by
  have h1:=(hR σ' hRR).rep hw _ (hop x (by simp[h,Op.operands]));simp only[Rep,aB]at h1;obtain⟨a,c,h1,h2,h3,_,h4⟩:=h1;generalize hl:jC ev lo=l at hlo ⊢;have e1:(Instr.sliceBounds true xs.length c (lo.map ρ) (some (ρ hi)) (some (ρ mx))).run G.P w=.ok (l.toNat,u.toNat,u.toNat) w:=by
   have hu:0≤u∧u≤(c:Int):=by omega
   have hll:0≤l∧l≤(u.toNat:Int):=by omega
   obtain⟨kz,nz,z1,z2⟩:=uP ihi (hop hi (by simp[h,Op.operands]));obtain⟨km,nm,m1,m2⟩:=uP imx (hop mx (by simp[h,Op.operands]));simp only[pF,z1]at eu;simp only[pF,m1]at em;subst eu em;have r0:=run_sliceBound (P:=G.P) (k:=km) (code:=.slice3Acap) (w:=w) hu;have r1:=run_sliceBound (P:=G.P) (k:=kz) (n:=nm) (y:=nm.toNat) (code:=.slice3B) (w:=w) (by omega);cases lo with
   |none=>
    simp only[jC]at hl;subst hl;simp[Instr.sliceBounds,z2,m2,r0,r1]
   |some y=>
    obtain⟨k,n,q1,q2⟩:=uP ilo (hop y (by simp[h,Op.operands]));simp only[jC,q1]at hl;subst hl;have:=run_sliceBound (P:=G.P) (k:=k) (code:=.slice3C) (w:=w) hll;simp[Instr.sliceBounds,z2,m2,r0,r1,q2,this]
  have hrun:(execOp ρ o).run G.P w=.ok (.value (.slice (if u.toNat=l.toNat then a else a.map (·.add (l.toNat*sz))) (u.toNat-l.toNat) (u.toNat-l.toNat))) w:=by
   have e2:∀w,(underlying T).run G.P w=.ok (.slice E) w:=λw=>run_underlying hT.und w;simp only[execOp,h,Instr.sliceAt,Instr.slice,h1,Sem.run_bind,e2,Result.andThen_ok,Option.map_some,e1,hT.size,Sem.run_pure]
  refine⟨_,hrun,?_⟩;simp only[Rep,aB];have hlx:((xs.take u.toNat).drop l.toNat).length=u.toNat-l.toNat:=by rw[List.length_drop,List.length_take];omega
  refine⟨_,u.toNat-l.toNat,by rw[hlx],by rw[hlx];omega,by omega,λ_=>hlx.symm,?_⟩;by_cases he:(xs.take u.toNat).drop l.toNat=[]
  ·exact .inl he
  ·right;have hlt:l.toNat<u.toNat:=by
    rcases Nat.lt_or_ge l.toNat u.toNat with q|q
    ·exact q
    ·exact absurd (List.eq_nil_of_length_eq_zero (by rw[hlx];omega)) he
   rcases h4 with rfl|⟨b,p,rfl,h4⟩
   ·simp at he
   ·refine⟨b,p+l.toNat*sz,?_,pE _ _ _ (λe hh=>hlen e (List.mem_of_mem_take hh)) (sF _ _ _ h4)⟩;rw[if_neg (by omega)];simp[dY]
theorem anr(W:Wld P tb){sz:Nat}{xs zs:List (List AV)}{a b:Int}(pf:Sl sz xs a b zs){s:Stp}{ob:Obs}(h:s3E tb env σ sz zs o.op=some (s,ob))(he:ob=([.lst false xs,.int .i64 a,.int .i64 b,.int .i64 b],[])):cz ⟨P,N,ids⟩ o env σ s:=by
 obtain⟨p1,p2,p3⟩:=pf;cases ho:o.op<;>rw[ho]at h
 case slice T x lo hi mx=>
  cases mx with
  |none=>cases hi<;>(simp only[s3E]at h;cases h)
  |some mx=>cases hi with
   |none=>simp only[s3E]at h;cases h
   |some hi=>
    simp only[s3E]at h;split at h
    ·rename_i sz' _ _ hT;have hk:=(fm.get W.tys hT).kd;simp only[kV]at hk;split at h
     ·cases h
     ·rename_i ax hx;split at h
      ·rename_i f xs' hs;split at h
       ·cases h
       ·rename_i a' ha;split at h
        ·cases h
        ·rename_i b' hb';split at h
         ·cases h
         ·rename_i b2 hb2;cases hb:Nat.beq sz' sz with
          |false=>rw[hb]at h;cases h
          |true=>
           rw[hb]at h;cases h
           simp only[Prod.mk.injEq,List.cons.injEq,AV.lst.injEq,AV.int.injEq,and_true,true_and]at he;obtain⟨rfl,rfl,rfl,e9⟩:=he;have:=Nat.eq_of_beq_eq_true hb;subst this;obtain⟨q1,q2⟩:=aaw ha;obtain⟨q3,q4⟩:=aax hb';obtain⟨q5,q6⟩:=aax hb2
           have hY:=Y.slice3 (G:=⟨P,N,ids⟩) (σ:=σ) ho (by rw[Env.aG hx];exact iC hs) hk.1 p1 q1 q3 q5 q4 (q6.trans e9) (by rw[q2];exact p2) (xO ax) (λσ' hR=>by
            rw[Env.aG hx];have:eB [] σ' ax=some (.lst f xs'):=by
             cases ax
             case own d=>simp only[eB]at hs ⊢;rw[hR _ (by simp[xO])];exact hs
             case lst b l=>cases b<;>exact hs
             case bX d=>simp only[eB]at hs;split at hs<;>first|cases hs|(split at hs<;>cases hs)
             case agg l=>simp only[eB]at hs;split at hs<;>cases hs
             case tup l=>simp only[eB]at hs;split at hs<;>cases hs
             case fn f l=>simp only[eB]at hs;split at hs<;>cases hs
             all_goals exact hs
            exact iC this)
           rw[q2,p3]at hY;exact hY
      ·cases h
    ·cases h
 all_goals (simp only[s3E]at h;cases h)
theorem rI{P:Program}(op:BinOp)(t:TypeId)(x y:Operand)(a a':Option Addr)(n n' c c':Nat)(w:World):(eqGuard op t x y (.slice a n c) (.slice a' n' c')).run P w=.ok () w:=by
 unfold eqGuard;cases op<;>rfl
theorem wP{P:Program}(w:World)(t e:TypeId)(a:Option Addr)(n c n' c':Nat)(h:P.underlying t=some (.slice e)):(binOp .neq t (.slice a n c) (.slice none n' c')).run P w=.ok (.bool (!a.isNone)) w:=by
 simp only[binOp];simp[Op.equal,Op.maxDepth,Lib.run_equalIn_slice_nil w 9999 t e a n c n' c' h]
theorem ans(W:Wld P tb){neg:Bool}{a:AV}(pf:am2 a){s:Stp}{ob:Obs}(h:snE tb env neg o.op=some (s,ob))(he:ob=([a],[])):cz ⟨P,N,ids⟩ o env σ s:=by
 cases ho:o.op<;>rw[ho]at h
 case binOp op T x y T2=>
  simp only[snE]at h;split at h
  ·cases h
  ·rename_i a' hx;split at h
   ·rename_i hy;split at h
    ·rename_i e1 e2 e3 E e4 e5 e6 hT;have hu:P.underlying T=some (.slice E):=(fm.get W.tys hT).kd.1.und;have key:∀(a':AV),env.evo x=some a'→a'=a→∀(I:Imm) (β:Nat→Value) (ρ:Operand→Value),(∀z∈o.op.operands,Rep I β (env.ev z) (ρ z))→∃p n c,ρ x=.slice (some p) n c∧ρ y=.slice none 0 0:=by
      intro a' hx e I β ρ hop;have h1:=hop x (by simp[ho,Op.operands]);rw[Env.aG hx,e]at h1;have h2:=hop y (by simp[ho,Op.operands]);rw[Env.aG hy]at h2;simp only[Rep,aB]at h2;obtain⟨p,n,c,e⟩:=pf I β _ h1;exact⟨p,n,c,e,h2⟩
     split at h
     ·cases neg with
      |true=>cases h
      |false=>
       cases h;simp only[Prod.mk.injEq,List.cons.injEq,and_true]at he;refine .pure λ_ _ I β w ρ _ _ hop=>?_;obtain⟨p,n,c,e1,e2⟩:=key _ hx he I β ρ hop;refine⟨.bool false,?_,by simp[Rep,aB]⟩;simp only[execOp,ho,e1,e2,Sem.run_bind,rI,Result.andThen_ok,Lib.run_eql_slice_nil w T E (some p) n c 0 0 hu];rfl
     ·cases neg with
      |false=>cases h
      |true=>
       cases h;simp only[Prod.mk.injEq,List.cons.injEq,and_true]at he;refine .pure λ_ _ I β w ρ _ _ hop=>?_;obtain⟨p,n,c,e1,e2⟩:=key _ hx he I β ρ hop;refine⟨.bool true,?_,by simp[Rep,aB]⟩;simp only[execOp,ho,e1,e2,Sem.run_bind,rI,Result.andThen_ok,wP w T E (some p) n c 0 0 hu];rfl
     ·cases h
    ·cases h
   ·cases h
 all_goals (simp only[snE]at h;cases h)
theorem qk(W:Wld P tb):∀{hint:Hint P} {s:Stp} {ob:Obs},uY tb ids o env σ hint=some (s,ob)→ob=hint.exp→cz ⟨P,N,ids⟩ o env σ s
 |.au,s,ob,h,he=>by
  simp only[uY]at h;split at h
  ·rename_i R av hy;cases h;exact am3 W hy
  ·split at h
   ·rename_i s' hs;cases h;exact am5 W hs
   ·cases h
 |.al d,s,ob,h,he=>by
  simp only[uY]at h;split at h
  ·rename_i s' hs;cases h;exact am6 W hs
  ·cases h
 |.to hh a b e,s,ob,h,he=>by
  simp only[uY]at h;split at h
  ·rename_i R av ob' hs;cases h
   simp only[Hint.exp,Prod.mk.injEq,List.cons.injEq]at he;obtain⟨⟨h1,h2⟩,h3⟩:=he;have:=qk W hs (Prod.ext h2 h3);simp only[cz]at this ⊢;rw[←e,←h1];exact this
  ·cases h
 |.ix sz xs i row pf,s,ob,h,he=>am7 W pf h he
 |.lo d sz xs i off row pf,s,ob,h,he=>am8 W pf h he
 |.so d sz xs i off ca zs pf k hk,s,ob,h,he=>am9 W pf hk h he
 |.rf f caps avs r pf hc,s,ob,h,he=>anb pf hc h he
 |.ro raw f σs avs r pf hc,s,ob,h,he=>ana pf hc h he
 |.le ds f avs r pf hc,s,ob,h,he=>anc pf hc h he
 |.dc news f σc avs r σ2 pf hc,s,ob,h,he=>ane pf hc h he
 |.dl ds news f avs r σ2 pf hc fl,s,ob,h,he=>anf pf hc fl h he
 |.gs eff ex f pf,s,ob,h,he=>pf o N ids env σ s ob h he
 |.ap d2 sz bytes xs ys zs pf,s,ob,h,he=>ang W pf h he
 |.sl sz xs a b zs pf,s,ob,h,he=>ani W pf h he
 |.ws d2 sz xs a zs pf,s,ob,h,he=>anh W pf h he
 |.qr n pf,s,ob,h,he=>anj pf h he
 |.sh n pf,s,ob,h,he=>ank pf h he
 |.is s0 n b pf,s,ob,h,he=>alq W pf h he
 |.lk E k aL n a b pf,s,ob,h,he=>anl W pf h he
 |.mu k aL n v gQ pf,s,ob,h,he=>anm W pf h he
 |.lm k aL n pf,s,ob,h,he=>ann W pf h he
 |.sq neg T a b r pf,s,ob,h,he=>ano pf h he
 |.sn neg a pf,s,ob,h,he=>ans W pf h he
 |.s3 sz xs a b zs pf,s,ob,h,he=>anr W pf h he
 |.pu T T' a r pf,s,ob,h,he=>anp pf h he
 |.pb op T a b r pf,s,ob,h,he=>anq pf h he
end
end
section
inductive Mv where
 |fz (ds:List Nat)
 |ad (t d T sz:Nat)
 |ac (d0 d T sz i:Nat)
 |sw (a b:Nat)
 |sc (d0:Nat) (kp:List Nat)
 |rn (a b:Nat)
 |wi (d:Nat)
def mvE(ids:List Nat)(env:Env)(σ:Sto):Mv→Option (Env×Sto)
 |.fz ds=>some (env,σ.freeze ds)
 |.ad t d T sz=>match env.find t with
  |some .bI=>bif (σ.get d).isNone&&!ids.contains d&&env.clean (Nat.beq d)&&σ.clean (Nat.beq d)then some ((t,.own d)::env,(d,.slice T sz [] 0 false)::σ)else none
  |_=>none
 |.ac d0 d T sz i=>match σ.get d0 with
  |some (.cells T0 cs)=>(match cs.drop i with
   |.bI::post=>bif !Nat.beq d0 d&&!ids.contains d&&env.clean (Nat.beq d)&&σ.clean (Nat.beq d)then some (env,(d,.slice T sz [] 0 false)::σ.set d0 (.cells T0 (cs.take i++.own d::post)))else none
   |_=>none)
  |_=>none
 |.sw a b=>bif uL (swp a b) (swp a b) ids env σ then some (env.ren (swp a b),σ.ren (swp a b))else none
 |.rn a b=>bif uL (λd=>bif Nat.beq d a then b else d) (λd=>bif Nat.beq d b then a else d) ids env σ then some (env.ren (λd=>bif Nat.beq d a then b else d),σ.ren (λd=>bif Nat.beq d a then b else d))else none
 |.sc d0 kp=>match σ.get d0 with
  |some (.cells T0 cs)=>(match mF kp σ cs with|none=>none|some cs'=>some (env,σ.set d0 (.cells T0 cs')))
  |_=>none
 |.wi d=>match σ.get d with
  |some (.slice T sz xs _ _)=>some (env,Sto.set d (.win T sz xs) (σ.freeze [d]))
  |_=>none
def uZ(ids:List Nat):List Mv→Env→Sto→Option (Env×Sto)
 |[],env,σ=>some (env,σ)
 |m::r,env,σ=>match mvE ids env σ m with
  |none=>none
  |some (e,s)=>uZ ids r e s
variable {G:Gl}
theorem ant{env bT:Env}{σ σ2:Sto}{m:Mv}(h:mvE G.ids env σ m=some (bT,σ2)):aU G env σ bT σ2:=by
 cases m with
 |fz ds=>cases h;exact aU.freeze G env σ ds
 |ad t d T sz=>
  simp only[mvE]at h;split at h
  ·rename_i hn;generalize hb:((σ.get d).isNone&&_&&_&&_)=bb at h;cases bb with
   |false=>cases h
   |true=>
    cases h;simp only[Bool.and_eq_true,Bool.not_eq_true',Option.isNone_iff_eq_none]at hb;exact aU.ap3 t d T sz (Env.gm hn) hb.1.1.1 hb.1.1.2 hb.1.2 hb.2
  ·cases h
 |ac d0 d T sz i=>
  simp only[mvE]at h;split at h
  ·rename_i T0 cs h0;split at h
   ·rename_i post hp;generalize hb:(!Nat.beq d0 d&&_&&_&&_)=bb at h;cases bb with
    |false=>cases h
    |true=>
     cases h;simp only[Bool.and_eq_true,Bool.not_eq_true']at hb;exact aU.amq d0 d T sz T0 (cs.take i) post (by rw[h0,←hp,List.take_append_drop]) hb.1.1.1 hb.1.1.2 hb.1.2 hb.2
   ·cases h
  ·cases h
 |sw a b=>
  simp only[mvE]at h;cases hb:uL (swp a b) (swp a b) G.ids env σ with
  |false=>rw[hb]at h;cases h
  |true=>rw[hb]at h;cases h;exact aU.ren _ _ hb
 |rn a b=>
  simp only[mvE]at h;generalize hb:uL _ _ _ _ _=bb at h;cases bb with
  |false=>cases h
  |true=>cases h;exact aU.ren _ _ hb
 |wi d=>
  simp only[mvE]at h;split at h
  ·rename_i T sz xs k fz hd;cases h;exact(aU.freeze G env σ [d]).trans (aU.win (by rw[Sto.dV,hd];simp only[Option.map_some,List.mem_singleton,if_true,br.frz]) rfl)
  ·cases h
 |sc d0 kp=>
  simp only[mvE]at h;split at h
  ·rename_i T0 cs h0;split at h
   ·cases h
   ·rename_i cs' hs;cases h;refine λcx I β a w hw ht=>⟨I,β,?_,ht⟩;have hsl:=nv hs;refine{hw with bB:=λd o hd=>?_,bQ:=λd d' hd hd' hne b=>?_}
    ·rw[Sto.cB]at hd;split at hd
     ·rename_i hdd;subst hdd;rw[h0]at hd;simp only[Option.map_some,Option.some.injEq]at hd;subst hd;have:=hw.bB d _ h0;simp only[aj]at this ⊢;rcases this with h1|⟨b,arr,h1,h2,h3,h4⟩
      ·exact .inl h1
      ·exact .inr ⟨b,arr,h1,h2,hsl.rep hw _ h3,h4⟩
     ·exact hw.bB d o hd
    ·have key:∀x,((σ.set d0 (.cells T0 cs')).get x).isSome→(σ.get x).isSome:=λx hx=>by
      rw[Sto.cB]at hx;split at hx
      ·rename_i he;subst he;rw[h0];rfl
      ·exact hx
     exact hw.bQ d d' (key d hd) (key d' hd') hne b
  ·cases h
theorem ql{G:Gl}:∀{ms:List Mv} {env bT:Env} {σ σ2:Sto},uZ G.ids ms env σ=some (bT,σ2)→aU G env σ bT σ2
 |[],env,_,σ,_,h=>by cases h;exact aU.refl G env σ
 |m::r,env,bT,σ,σ2,h=>by
  simp only[uZ]at h;split at h
  ·cases h
  ·rename_i e s hm;exact(ant hm).trans (ql h)
def u0(sl:List Nat)(kp:List Nat)(σ:Sto)(env:Env):List Nat→Option Env
 |[]=>some []
 |k::r=>match env.find k with
  |none=>none
  |some a=>match(bif sl.any (Nat.beq k)then eB kp σ a else some a)with
   |none=>none
   |some b=>match u0 sl kp σ env r with
    |none=>none
    |some l=>some ((k,b)::l)
theorem sJ{sl:List Nat}{kp:List Nat}{σ:Sto}{env:Env}:∀{ks:List Nat} {bT:Env},u0 sl kp σ env ks=some bT→oS σ env bT
 |[],bT,h=>by cases h;trivial
 |k::r,bT,h=>by
  simp only[u0]at h;split at h
  ·cases h
  ·rename_i a ha;split at h
   ·cases h
   ·rename_i b hb;split at h
    ·cases h
    ·rename_i l hl;cases h;refine⟨?_,sJ hl⟩;rw[Env.gm ha];cases hs:sl.any (Nat.beq k)with
     |false=>rw[hs]at hb;cases hb;exact .refl _
     |true=>rw[hs]at hb;exact iC hb
def zQ(ids:List Nat)(ms:List Mv)(sl:List Nat)(ks ds:List Nat)(env:Env)(σ:Sto):Option (Env×Sto):=match uZ ids ms env σ with
 |none=>none
 |some (e,s)=>match u0 sl ds s e ks with
  |none=>none
  |some e2=>match s.at ds with
   |none=>none
   |some s2=>some (e2,s2)
theorem ahK{ms:List Mv}{sl:List Nat}{ks ds:List Nat}{env bT:Env}{σ σ2:Sto}(h:zQ G.ids ms sl ks ds env σ=some (bT,σ2)):aU G env σ bT σ2:=by
 simp only[zQ]at h;split at h
 ·cases h
 ·rename_i e s hm;split at h
  ·cases h
  ·rename_i e2 hk;split at h
   ·cases h
   ·rename_i s2 hs;cases h;exact(ql hm).trans (aU.of (sJ hk) (Sto.iQ hs).1)
abbrev nM(e:Env):List Nat:=e.map (·.1)
theorem aU.go{env bT:Env}{σ σ2:Sto}(ms:List Mv)(sl:List Nat)(h:zQ G.ids ms sl (nM bT) σ2.ids env σ=some (bT,σ2)):aU G env σ bT σ2:=ahK h
def xP(ops:Array Oper)(o:Oper)(env:Env):Option Bool:=match o.guard with
 |none=>some true
 |some (j,want)=>match ops[j]? with
  |none=>none
  |some oj=>match oj.dst with
   |none=>none
   |some dj=>match env.find dj with
    |some (.bool true)=>some want
    |some (.bool false)=>some (!want)
    |some .undef=>some false
    |_=>none
variable {o:Oper}{ops:Array Oper}
theorem qm{env:Env}(h:xP ops o env=some true):Want ops o env:=by
 unfold xP at h;split at h
 ·exact Want.n ‹_›
 ·rename_i j want hg;split at h
  ·cases h
  ·rename_i oj hj;split at h
   ·cases h
   ·rename_i dj hd;split at h
    ·rename_i he;cases h;exact Want.g hg hj hd (Env.gm he) rfl
    ·rename_i he;simp only[Option.some.injEq,Bool.not_eq_true']at h;subst h;exact Want.g hg hj hd (Env.gm he) rfl
    ·cases h
    ·cases h
theorem ad6{env:Env}(h:xP ops o env=some false):jB ops o env:=by
 unfold xP at h;split at h
 ·cases h
 ·rename_i j want hg;split at h
  ·cases h
  ·rename_i oj hj;split at h
   ·cases h
   ·rename_i dj hd;split at h
    ·rename_i he;cases h;exact jB.g hg hj hd (Env.gm he) rfl
    ·rename_i he;simp only[Option.some.injEq,Bool.not_eq_false']at h;subst h;exact jB.g hg hj hd (Env.gm he) rfl
    ·rename_i he;exact jB.undef hg hj hd (Env.gm he)
    ·cases h
def qn{P:Program}(tb:Tb)(ids:List Nat)(ops:Array Oper)(s:Sch):List (Nat×Hint P)→List (Nat×List Nat)→Env→Sto→Option (Env×Sto×List Obs)
 |[],_,env,σ=>some (env,σ,[])
 |(i,h)::r,log,env,σ=>match ops[i]? with
  |none=>none
  |some o=>match xP ops o env with
   |none=>none
   |some false=>(match qn tb ids ops s r (bif isP s i then(i,[])::log else log) (env.put o.dst .undef) σ with
    |none=>none
    |some (e,s',obs)=>some (e,s',([],[])::obs))
   |some true=>match uY tb ids o env σ h with
    |none=>none
    |some (.y R av,ob)=>bif !isP s i||abY σ R then(match qn tb ids ops s r (bif isP s i then(i,R)::log else log) (env.put o.dst av) σ with
     |none=>none
     |some (e,s',obs)=>some (e,s',ob::obs))else none
    |some (.v d ob' av,ob)=>bif isP s i&&env.clean [d].contains&&σ.clean [d].contains&&amf ob' then(match qn tb ids ops s r ((i,[d])::log) (env.put o.dst av) ((d,ob')::σ)with
     |none=>none
     |some (e,s',obs)=>some (e,s',ob::obs))else none
    |some (.e M news av σ',ob)=>bif isE s i&&(!s.dr||nJ s i M log)&&env.clean news.contains&&news.all (λd=>(σ.get d).isNone)then(match qn tb ids ops s r log (env.put o.dst av) σ' with
     |none=>none
     |some (e,s',obs)=>some (e,s',ob::obs))else none
theorem acy{s:Sch}{i:Nat}(h:isP s i=false):isE s i=true:=by
 unfold isP at h;unfold isE
 cases hd:s.dr<;>simp_all
theorem nN{P:Program}{tb:Tb}{N:Nat}{ids:List Nat}{ops:Array Oper}{s:Sch}{K:Env→Sto→Prop}(W:Wld P tb):∀{pl:List (Nat×Hint P)} {log:List (Nat×List Nat)} {env rj:Env} {σ σ1:Sto} {obs:List Obs},
  qn tb ids ops s pl log env σ=some (rj,σ1,obs)→obs=pl.map (λp=>p.2.exp)→K rj σ1→Cert ⟨P,N,ids⟩ ops s log (pl.map (·.1)) env σ K
 |[],log,env,rj,σ,σ1,obs,h,_,k=>by cases h;exact C.nil k
 |(i,hi)::r,log,env,rj,σ,σ1,obs,h,he,k=>by
  simp only[qn]at h;split at h
  ·cases h
  ·rename_i o ho;split at h
   ·cases h
   ·rename_i hw;split at h
    ·cases h
    ·rename_i e s' acz hr;cases h;simp only[List.map_cons,List.cons.injEq]at he ⊢;cases hp:isP s i with
     |true=>rw[hp]at hr;exact C.skip ho (ad6 hw) hp (nN W hr he.2 k)
     |false=>rw[hp]at hr;exact C.ap4 ho (ad6 hw) (acy hp) (nN W hr he.2 k)
   ·rename_i hw;split at h
    ·cases h
    ·rename_i R av ob hs;generalize hb:(!isP s i||_)=bb at h;cases bb with
     |false=>cases h
     |true=>
      simp only[cond_true]at h;split at h
      ·cases h
      ·rename_i e s' acz hr;cases h;simp only[List.map_cons,List.cons.injEq]at he ⊢;have hY:=qk (N:=N) W hs he.1;cases hp:isP s i with
       |true=>
        rw[hp]at hr hb;exact C.y ho (qm hw) hp (by simpa using hb) hY (nN W hr he.2 k)
       |false=>
        rw[hp]at hr;exact C.ey ho (qm hw) (acy hp) hY (nN W hr he.2 k)
    ·rename_i d ob' av ob hs;generalize hb:(isP s i&&_&&_&&_)=bb at h;cases bb with
     |false=>cases h
     |true=>
      simp only[cond_true]at h;simp only[Bool.and_eq_true]at hb;split at h
      ·cases h
      ·rename_i e s' acz hr;cases h;simp only[List.map_cons,List.cons.injEq]at he ⊢;have hY:=qk (N:=N) W hs he.1;exact C.v ho (qm hw) hb.1.1.1 hY.1 hb.1.1.2 hb.1.2 hb.2 hY.2 (nN W hr he.2 k)
    ·rename_i M news av σ' ob hs;generalize hb:(isE s i&&_&&_&&_)=bb at h;cases bb with
     |false=>cases h
     |true=>
      simp only[cond_true]at h;simp only[Bool.and_eq_true]at hb;split at h
      ·cases h
      ·rename_i e s' acz hr;cases h;simp only[List.map_cons,List.cons.injEq]at he ⊢;have hY:=qk (N:=N) W hs he.1;refine C.e ho (qm hw) hb.1.1.1 hY.1 hb.1.1.2 hb.1.2 ?_ (λa s2 hh=>?_)
       ·rw[List.all_eq_true];intro d hd;rw[Bool.and_eq_true];exact⟨List.all_eq_true.1 hY.2 d hd,List.all_eq_true.1 hb.2 d hd⟩
       ·obtain⟨rfl,rfl⟩:=hh;exact nN W hr he.2 k
def anu(l:List Nat)(n:Nat):List Nat:=bif l.any (Nat.beq n)then l else n::l
def acA(ops:List Oper):List (List Nat):=
 (ops.foldl (λ(T:List (List Nat)) o=>(o.after.toList.foldl (λw e=>bif Region.binds .any e then(T.getD (T.length-1-e.on) []).foldl anu (anu w e.on)else w) [])::T) []).reverse
def Hint.eff{P:Program}:Hint P→Bool
 |.dc ..|.dl ..|.ap ..=>true
 |.gs e _ _ _=>e
 |_=>false
def aro:Op→Bool
 |.assign _|.store ..|.mapUpdate ..|.insert ..|.entryStore ..|.makeSlice ..=>true
 |_=>false
def hintOf{P:Program}(hs:List (Nat×Hint P))(i:Nat):Hint P:=match hs with
 |[]=>.au
 |(k,h)::r=>bif Nat.beq k i then h else hintOf r i
def aeI{P:Program}(hs:List (Nat×Hint P)):Nat→List Oper→List Nat
 |_,[]=>[]
 |i,o::r=>bif aro o.op||(hintOf hs i).eff then i::aeI hs (i+1) r else aeI hs (i+1) r
def aeJ(T:List (List Nat))(es left:List Nat):List Nat→Option Nat→Option Nat
 |[],f=>f
 |i::r,f=>bif (T.getD i []).any (λj=>left.any (Nat.beq j))then aeJ T es left r f
   else bif es.any (Nat.beq i)then aeJ T es left r (match f with|none=>some i|some x=>some x)else some i
def af8(T:List (List Nat))(es:List Nat):Nat→List Nat→List Nat
 |0,_=>[]
 |n+1,left=>match aeJ T es left left none with
  |none=>[]
  |some i=>i::af8 T es n (left.filter λj=>!Nat.beq i j)
def iR{P:Program}(ops:Array Oper)(dr:Bool)(hs:List (Nat×Hint P)):Sch×List Nat:=
 bif dr then
  let T:=acA ops.toList
  let es:=aeI hs 0 ops.toList
  (⟨true,T,es⟩,af8 T es ops.size (List.range ops.size))
 else(⟨false,[],[]⟩,List.range ops.size)
def okE(N:Nat)(ops:Array Oper)(dr:Bool)(s:Sch)(l:List Nat):Bool:=bif dr then s.dr&&zq N ops s l else !s.dr&&s.T.isEmpty&&s.es.isEmpty&&rK N ops
def u9{P:Program}(tb:Tb)(N:Nat)(ids:List Nat)(ops:Array Oper)(dr:Bool)(s:Sch)(l:List Nat)(ms:List Mv)(hs:List (Nat×Hint P))(ks ds:List Nat)(env:Env)(σ:Sto):Option (Env×Sto×List Obs):=
 bif okE N ops dr s l then
  (match uZ ids ms env σ with
  |none=>none
  |some (e0,s0)=>match qn tb ids ops s (l.map λi=>(i,hintOf hs i)) [] e0 s0 with
   |none=>none
   |some (e1,s1,obs)=>match u0 [] ds s1 e1 ks with
    |none=>none
    |some e2=>match s1.at ds with
     |none=>none
     |some s2=>some (e2,s2,obs))
 else none
section code
variable {P:Program}{N:Nat}{ids:List Nat}{tb:Tb}{env:Env}{σ:Sto}{Q:Exit→Env→Sto→Prop}{x y c:Code}
theorem A.R(W:Wld P tb){id:Nat}{ops:Array Oper}{dr:Bool}(ms:List Mv)(hs:List (Nat×Hint P))(bT:Env)(σ2:Sto)
  (h:u9 tb N ids ops dr (iR ops dr hs).1 (iR ops dr hs).2 ms hs (nM bT) σ2.ids env σ=some (bT,σ2,(iR ops dr hs).2.map λi=>(hintOf hs i).exp)) (k:Q .normal bT σ2):af ⟨P,N,ids⟩ (.region id ops dr) Q env σ:=by
 generalize hsl:iR ops dr hs=sl at h;obtain⟨s,l⟩:=sl;simp only[u9]at h;cases hok:okE N ops dr s l with
 |false=>rw[hok]at h;cases h
 |true=>
  rw[hok]at h;simp only[cond_true]at h;split at h
  ·cases h
  ·rename_i e0 s0 hm;split at h
   ·cases h
   ·rename_i e1 s1 obs hr;split at h
    ·cases h
    ·rename_i e2 hk;split at h
     ·cases h
     ·rename_i s2 hs2;simp only[Option.some.injEq,Prod.mk.injEq]at h;obtain⟨rfl,rfl,ho⟩:=h;refine A.weak (ql hm) ?_
      have hc:∀K:Env→Sto→Prop,K e1 s1→Cert ⟨P,N,ids⟩ ops s [] l e0 s0 K:=λK hK=>by
       have:=nN (N:=N) (K:=K) W hr (by rw[ho,List.map_map];rfl) hK;rw[List.map_map,show((λx:Nat×Hint P=>x.1)∘λi=>(i,hintOf hs i))=λi=>i from rfl,List.map_id']at this;exact this
      refine A.late ?_;have anv:∃bT σ2,aU ⟨P,N,ids⟩ e1 s1 bT σ2∧Q .normal bT σ2:=⟨e2,s2,aU.of (sJ hk) (Sto.iQ hs2).1,k⟩;cases dr with
      |false=>
       simp only[okE,cond_false,Bool.and_eq_true,Bool.not_eq_true',List.isEmpty_iff]at hok;have hs0:s=⟨false,[],[]⟩:=by
        obtain⟨a,b,c⟩:=s;simp only at hok;obtain⟨⟨⟨h1,h2⟩,h3⟩,h4⟩:=hok;subst h1 h2 h3;rfl
       have hl:l=List.range ops.size:=by
        have:=congrArg Prod.snd hsl;simpa [iR]using this.symm
       subst hs0 hl;exact A.region hok.2 (hc _ anv)
      |true=>
       simp only[okE,cond_true,Bool.and_eq_true]at hok;obtain⟨dr',T,es⟩:=s;obtain⟨h1,h2⟩:=hok;simp only at h1;subst h1;exact A.any T es l W.mix h2 (hc _ anv)
theorem A.RS(W:Wld P tb){id:Nat}{ops:Array Oper}{dr:Bool}(ms:List Mv)(hs:List (Nat×Hint P))(bT:Env)(σ2:Sto)
  (h:u9 tb N ids ops dr (iR ops dr hs).1 (iR ops dr hs).2 ms hs (nM bT) σ2.ids env σ=some (bT,σ2,(iR ops dr hs).2.map λi=>(hintOf hs i).exp)) (k:af ⟨P,N,ids⟩ y Q bT σ2):af ⟨P,N,ids⟩ (.seq (.region id ops dr) y) Q env σ:=
 A.seq (A.R W ms hs bT σ2 h k)
theorem A.cT{G:Gl}{o:Operand}{p:Bool}(hc:env.evo o=some (.bool p))(hp:p=true)(k:af G x Q env σ):af G (.cond o x y) Q env σ:=A.cond (Env.aG hc) (λ_=>k) (λhf=>by rw[hp]at hf;cases hf)
theorem A.cF{G:Gl}{o:Operand}{p:Bool}(hc:env.evo o=some (.bool p))(hp:p=false)(k:af G y Q env σ):af G (.cond o x y) Q env σ:=A.cond (Env.aG hc) (λht=>by rw[hp]at ht;cases ht) (λ_=>k)
theorem A.J{G:Gl}{α ρ:Type}{J:α→Option ρ}{r:ρ}(cn:α→Env)(dh:α→Sto)
  (h:af G x (l8 (λenv' σ'=>∃g,J g=some r∧aU G env' σ' (cn g) (dh g)) Q) env σ) (k:∀g,J g=some r→af G y Q (cn g) (dh g)):af G (.seq x y) Q env σ:=by
 refine A.seq (h.mono ?_);intro e env' σ' hq;cases e with
 |normal=>
  obtain⟨g,hg,hw⟩:=hq;exact A.weak hw (k g hg)
 |_=>exact hq
theorem A.lpI{G:Gl}{α S ρ:Type}{l:List α}{B:Int→α→(S→Option ρ)→S→Option ρ}{K:S→Option ρ}{s0:S}{j0:Nat}{r:ρ}(hm:bJ (l.drop j0) j0 B K s0=some r)(cn:Nat→S→Env)(dh:Nat→S→Sto)
  (hw:aU G env σ (cn j0 s0) (dh j0 s0))
  (hin:∀(j:Nat) (x:α) (Z:S→Option ρ) (s:S),j0≤j→l[j]?=some x→B j x Z s=some r→af G c (l8 (λenv' σ'=>∃s',Z s'=some r∧aU G env' σ' (cn (j+1) s') (dh (j+1) s')) Q) (cn j s) (dh j s))
  (hout:∀(j:Nat) (s:S),j0≤j→l.length≤j→K s=some r→af G c (l8 (λ_ _=>False) Q) (cn j s) (dh j s)):af G (.loop c) Q env σ:=by
 refine A.loop (α:=Nat×S) (λg=>cn g.1 g.2) (λg=>dh g.1 g.2) (λg=>j0≤g.1∧bJ (l.drop g.1) g.1 B K g.2=some r) (λg=>l.length-g.1) (j0,s0) ⟨Nat.le_refl _,hm⟩ hw ?_;rintro⟨j,s⟩ ⟨hj,hf⟩;simp only at hj hf ⊢;by_cases hlt:j<l.length
 ·have hx:l[j]?=some l[j]:=List.getElem?_eq_getElem hlt;rw[List.drop_eq_getElem_cons hlt]at hf;refine(hin j l[j] (bJ (l.drop (j+1)) (j+1) B K) s hj hx hf).mono ?_;intro e env' σ' hq;cases e with
  |normal=>
   obtain⟨s',h1,h2⟩:=hq;exact⟨(j+1,s'),⟨by omega,h1⟩,by show l.length-(j+1)<l.length-j;omega,h2⟩
  |_=>exact hq
 ·rw[List.drop_eq_nil_of_le (by omega)]at hf;refine(hout j s hj (by omega) hf).mono ?_;intro e env' σ' hq;cases e with
  |normal=>exact hq.elim
  |_=>exact hq
theorem A.lpN{G:Gl}{S ρ:Type}{n0:Nat}{i0 hi:Int}{B:Int→(S→Option ρ)→S→Option ρ}{K:Int→S→Option ρ}{s0:S}{r:ρ}(hm:jd n0 i0 B K s0=some r)(hn:n0=(hi-i0).toNat)(cn:Int→S→Env)(dh:Int→S→Sto)
  (hw:aU G env σ (cn i0 s0) (dh i0 s0))
  (hin:∀(i:Int) (Z:S→Option ρ) (s:S),i0≤i→i<hi→B i Z s=some r→af G c (l8 (λenv' σ'=>∃s',Z s'=some r∧aU G env' σ' (cn (i+1) s') (dh (i+1) s')) Q) (cn i s) (dh i s))
  (hout:∀(i:Int) (s:S),i0≤i→hi≤i→K i s=some r→af G c (l8 (λ_ _=>False) Q) (cn i s) (dh i s)):af G (.loop c) Q env σ:=by
 refine A.loop (α:=Nat×Int×S) (λg=>cn g.2.1 g.2.2) (λg=>dh g.2.1 g.2.2) (λg=>i0≤g.2.1∧g.1=(hi-g.2.1).toNat∧jd g.1 g.2.1 B K g.2.2=some r) (λg=>g.1) (n0,i0,s0) ⟨Int.le_refl _,hn,hm⟩ hw ?_;rintro⟨n,i,s⟩ ⟨hj,hn,hf⟩;simp only at hj hn hf ⊢;cases n with
 |zero=>
  refine(hout i s hj (by omega) hf).mono ?_;intro e env' σ' hq;cases e with
  |normal=>exact hq.elim
  |_=>exact hq
 |succ n=>
  refine(hin i (jd n (i+1) B K) s hj (by omega) hf).mono ?_;intro e env' σ' hq;cases e with
  |normal=>
   obtain⟨s',h1,h2⟩:=hq;exact⟨(n,i+1,s'),⟨by show i0≤i+1;omega,by show n=(hi-(i+1)).toNat;omega,h1⟩,by show n<n+1;omega,h2⟩
  |_=>exact hq
theorem A.lpW{G:Gl}{S ρ:Type}{F:(S→Option ρ)→S→Option ρ}{n0:Nat}{s0:S}{r:ρ}(hm:iter F n0 s0=some r)(cn:S→Env)(dh:S→Sto)(hw:aU G env σ (cn s0) (dh s0))
  (hin:∀(Z:S→Option ρ) (s:S),F Z s=some r→af G c (l8 (λenv' σ'=>∃s',Z s'=some r∧aU G env' σ' (cn s') (dh s')) Q) (cn s) (dh s)):af G (.loop c) Q env σ:=by
 refine A.loop (α:=Nat×S) (λg=>cn g.2) (λg=>dh g.2) (λg=>iter F g.1 g.2=some r) (λg=>g.1) (n0,s0) hm hw ?_;rintro⟨n,s⟩ hf;cases n with
 |zero=>cases hf
 |succ n=>
  refine(hin (iter F n) s hf).mono ?_;intro e env' σ' hq;cases e with
  |normal=>
   obtain⟨s',h1,h2⟩:=hq;exact⟨(n,s'),h1,by show n<n+1;omega,h2⟩
  |_=>exact hq
theorem va{I:Imm}{b:Nat}:∀{e:List AV} {o:Nat} {x:AV},fc I b e o→x∈e→∃u,aB I x u
 |[],_,_,_,h=>by simp at h
 |y::r,o,x,hr,h=>by
  simp only[fc]at hr;rcases List.mem_cons.1 h with rfl|h
  ·obtain⟨u,_,h2⟩:=hr.1;exact⟨u,h2⟩
  ·exact va hr.2 h
theorem yl{I:Imm}{b:Nat}:∀{xs:List (List AV)} {o:Nat} {e:List AV},dg I b xs o→e∈xs→∃o,fc I b e o
 |[],_,_,_,h=>by simp at h
 |y::r,o,x,hr,h=>by
  simp only[dg]at hr;rcases List.mem_cons.1 h with rfl|h
  ·exact⟨o,hr.1⟩
  ·exact yl hr.2 h
theorem abp{I:Imm}:∀{e:List AV} {vs:List Value} {x:AV},aS I e vs→x∈e→∃u,aB I x u
 |[],_,_,_,h=>by simp at h
 |y::r,vs,x,hr,h=>by
  simp only[aS]at hr;obtain⟨u,us,_,h1,h2⟩:=hr;rcases List.mem_cons.1 h with rfl|h
  ·exact⟨u,h1⟩
  ·exact abp h2 h
theorem aB.LB{I:Imm}:∀(n:Nat) (f:Bool) (xs:List (List AV)) (v:Value),aB I (.lst f xs) v→LBn n xs
 |0,f,xs,v,h=>by
  simp only[aB]at h;obtain⟨a,c,_,h1,h2,_⟩:=h;exact Nat.le_trans h1 h2
 |n+1,f,xs,v,h=>by
  simp only[aB]at h;obtain⟨a,c,_,h1,h2,_,h3⟩:=h;refine⟨Nat.le_trans h1 h2,λe he g ys hy=>?_⟩;rcases h3 with rfl|⟨b,o,_,h4⟩
  ·simp at he
  ·obtain⟨o',h5⟩:=yl h4 he;obtain⟨u,h6⟩:=va h5 hy;exact aB.LB n g ys u h6
theorem Rep.LB{I:Imm}{β:Nat→Value}{f:Bool}{xs:List (List AV)}{v:Value}(h:Rep I β (.lst f xs) v):LB xs:=λn=>aB.LB n f xs v (by simpa only[Rep]using h)
theorem aW.LB{I:Imm}{β:Nat→Value}{f:Bool}{xs:List (List AV)}:∀{cs:List AV} {vs:List Value} {i:Nat},aW I β cs vs→cs[i]?=some (.lst f xs)→LB xs:=λh hi=>by
 obtain⟨v,_,h2⟩:=uN h hi;exact Rep.LB h2
theorem anw{G:Gl}{cx:Cx}{I:Imm}{β:Nat→Value}{σ:Sto}{w:World}(hw:aX G cx I β σ w){d:Nat}{T sz k:Nat}{fz:Bool}{xs:List (List AV)}(hd:σ.get d=some (.slice T sz xs k fz)){v:Value}(hv:Rep I β (.own d) v):LB xs:=by
 obtain⟨a,c,_,q1,q2⟩:=zC hw hd hv;intro n;cases n with
 |zero=>exact Nat.le_trans q1 q2
 |succ n=>
  refine⟨Nat.le_trans q1 q2,λe he g ys hy=>?_⟩;simp only[Rep]at hv;have:=hw.bB d _ hd;simp only[aj]at this;rcases this with h1|⟨_,rfl,_⟩|⟨b,cap,arr,_,_,_,_,_,h6,_⟩
  ·rw[hv.1,h1]at hv;simp[fP]at hv
  ·simp at he
  ·obtain⟨u,h7⟩:=abp h6 (List.mem_flatten.2 ⟨e,he,hy⟩);exact aB.LB n g ys u h7
theorem A.bS{G:Gl}{f:Bool}{xs:List (List AV)}(t:Nat)(h:env.find t=some (.lst f xs))(k:LB xs→af G c Q env σ):af G c Q env σ:=by
 refine af.of λcx a w hr=>?_;obtain⟨I,β,h1,h2,h3,h4⟩:=hr;have hv:=h2 t;rw[Env.gm h]at hv;exact(k (Rep.LB hv)).use cx a w ⟨I,β,h1,h2,h3,h4⟩
theorem A.bW{G:Gl}{T sz k:Nat}{fz:Bool}{xs:List (List AV)}{d:Nat}(t:Nat)(ht:env.find t=some (.own d))(h:σ.get d=some (.slice T sz xs k fz))(k:LB xs→af G c Q env σ):af G c Q env σ:=by
 refine af.of λcx a w hr=>?_;obtain⟨I,β,h1,h2,h3,h4⟩:=hr;have hv:=h2 t;rw[Env.gm ht]at hv;exact(k (anw h1 h hv)).use cx a w ⟨I,β,h1,h2,h3,h4⟩
theorem A.bP{G:Gl}{f:Bool}{cs:List AV}{xs:List (List AV)}(t i:Nat)(h:env.find t=some (.cV cs))(hi:cs[i]?=some (.lst f xs))(k:LB xs→af G c Q env σ):af G c Q env σ:=by
 refine af.of λcx a w hr=>?_;obtain⟨I,β,h1,h2,h3,h4⟩:=hr;have hv:=h2 t;rw[Env.gm h]at hv;simp only[Rep,aB]at hv;obtain⟨b,o,_,hv⟩:=hv;obtain⟨u,hu⟩:=va hv (List.mem_of_getElem? hi);exact(k (λn=>aB.LB n f xs u hu)).use cx a w ⟨I,β,h1,h2,h3,h4⟩
theorem A.bC{G:Gl}{T d:Nat}{f:Bool}{cs:List AV}{xs:List (List AV)}(t i:Nat)(ht:env.find t=some (.ptr d 0))(h:σ.get d=some (.cells T cs))(hi:cs[i]?=some (.lst f xs))(k:LB xs→af G c Q env σ):af G c Q env σ:=by
 refine af.of λcx a w hr=>?_;obtain⟨I,β,h1,h2,h3,h4⟩:=hr;have hv:=h2 t;rw[Env.gm ht]at hv;simp only[Rep]at hv;obtain⟨b,hb,_⟩:=hv;obtain⟨arr,_,_,hL,_⟩:=aX.box h1 h hb;exact(k (aW.LB hL hi)).use cx a w ⟨I,β,h1,h2,h3,h4⟩
theorem A.mid{G:Gl}(bT:Env)(σ2:Sto)(h:af G y Q bT σ2→af G (.seq x y) Q env σ)(k:af G y Q bT σ2):af G (.seq x y) Q env σ:=h k
end code
theorem tf(b:Bool):b=true∨b=false:=by cases b<;>simp
variable {p q:Bool}
theorem oF(h:p=true):AV.bool q=.bool (p&&q):=by rw[h];rfl
theorem oG(h:p=false):AV.bool false=.bool (p&&q):=by rw[h];rfl
theorem orT(h:p=true):AV.bool true=.bool (p||q):=by rw[h];rfl
theorem orF(h:p=false):AV.bool q=.bool (p||q):=by rw[h];rfl
theorem bE(h:p=q):AV.bool p=.bool q:=by rw[h]
section
variable {P:Program}
def hto{a b:AV}(e:a=b):Hint P:=.to .au a b e
def hx2(h:Hint P){a b:AV}(e:a=b):Hint P:=.to h a b e
def hix{sz:Nat}{xs:List (List AV)}{i:Int}{row:List AV}(pf:Ix sz xs i row):Hint P:=.ix sz xs i row pf
def hlo(d off:Nat){sz:Nat}{xs:List (List AV)}{i:Int}{row:List AV}(pf:Ix sz xs i row):Hint P:=.lo d sz xs i off row pf
def hso(d:Nat){sz:Nat}{xs:List (List AV)}{i:Int}{off:Nat}{ca:List AV}{zs:List (List AV)}(pf:St sz xs i off ca zs){k:Nat}(hk:(k:Int)≤i):Hint P:=.so d sz xs i off ca zs pf k hk
def hro{f:FuncId}{σs:Sto}{avs:List AV}{r:AV}(pf:RO P f σs avs r)(hc:aO P f):Hint P:=.ro 0 f σs avs r pf hc
def anx(raw:Nat){f:FuncId}{σs:Sto}{avs:List AV}{r:AV}(pf:RO P f σs avs r)(hc:aO P f):Hint P:=.ro raw f σs avs r pf hc
def hrf{f:FuncId}{caps avs:List AV}{r:AV}(pf:RO P f [] (avs++caps) r)(hc:aO P f):Hint P:=.rf f caps avs r pf hc
def hle(ds:List Nat){f:FuncId}{avs:List AV}{r:AV}(pf:RO P f [] avs r)(hc:aO P f):Hint P:=.le ds f avs r pf hc
def hlk{E:Nat}{k:IntKind}{aL:List (AV×AV)}{n:Int}{a:AV}{b:Bool}(pf:Lk P E k aL n a b):Hint P:=.lk E k aL n a b pf
def hmu{k:IntKind}{aL:List (AV×AV)}{n:Int}{v:AV}{gQ:List (AV×AV)}(pf:Mu k aL n v gQ):Hint P:=.mu k aL n v gQ pf
def hs3{sz:Nat}{xs zs:List (List AV)}{a b:Int}(pf:Sl sz xs a b zs):Hint P:=.s3 sz xs a b zs pf
def hlm{k:IntKind}{aL:List (AV×AV)}{n:Int}(pf:Lm k aL n):Hint P:=.lm k aL n pf
def hdc(news:List Nat){f:FuncId}{σc:Sto}{avs:List AV}{r:AV}{σ2:Sto}(pf:b9 P f σc avs (λa σ'=>a=r∧σ'=σ2))(hc:aO P f):Hint P:=.dc news f σc avs r σ2 pf hc
def hap(d2:Nat){sz bytes:Nat}{xs ys zs:List (List AV)}(pf:Ap sz bytes xs ys zs):Hint P:=.ap d2 sz bytes xs ys zs pf
def hws(d2:Nat){sz:Nat}{xs:List (List AV)}{a:Int}{zs:List (List AV)}(pf:Sl sz xs a (xs.length:Int) zs):Hint P:=.ws d2 sz xs a zs pf
def hsl{sz:Nat}{xs:List (List AV)}{a b:Int}{zs:List (List AV)}(pf:Sl sz xs a b zs):Hint P:=.sl sz xs a b zs pf
end
variable {α:Type}
theorem ltT{l:List α}{j:Nat}{x:α}(h:l[j]?=some x):decide ((j:Int)<(l.length:Int))=true:=by
 obtain⟨h1,_⟩:=List.getElem?_eq_some_iff.1 h;exact decide_eq_true (by omega)
theorem ltF{l:List α}{j:Nat}(h:l.length≤j):decide ((j:Int)<(l.length:Int))=false:=decide_eq_false (by omega)
theorem geF{i h:Int}(hh:h≤i):decide (i<h)=false:=decide_eq_false (by omega)
theorem anz(e:En α){l m:List α}{a:Int}(h:lH l a (l.length:Int)=some m):Sl e.sz (ml e l) a ((ml e l).length:Int) (ml e m):=by rw[eF];exact sl e h
def wQ(P:Program)(T:Nat):List (Nat×Nat)→Nat→Prop
 |[],_=>True
 |(off,_)::r,n=>dS P T n off∧wQ P T r (n+1)
theorem wQ.get{P:Program}{T:Nat}:∀{pl:List (Nat×Nat)} {n f off sz:Nat},wQ P T pl n→pl[f]?=some (off,sz)→dS P T (n+f) off
 |[],_,_,_,_,_,h=>by simp at h
 |(o,s)::r,n,0,off,sz,hh,h=>by simp at h;obtain⟨rfl,rfl⟩:=h;exact hh.1
 |(o,s)::r,n,f+1,off,sz,hh,h=>by
  have:=wQ.get (f:=f) (off:=off) (sz:=sz) hh.2 (by simpa using h)
  rwa [Nat.add_right_comm,Nat.add_assoc]at this
def ud(P:Program)(T:Nat):List (Nat×Nat)→List Bool→Nat→Prop
 |(off,sz)::r,ag::s,n=>cN P T n off sz ag∧ud P T r s (n+1)
 |_,_,_=>True
theorem ud.get{P:Program}{T:Nat}:∀{pl:List (Nat×Nat)} {ags:List Bool} {n f off sz:Nat} {ag:Bool},ud P T pl ags n→pl[f]?=some (off,sz)→ags[f]?=some ag→cN P T (n+f) off sz ag
 |[],_,_,_,_,_,_,_,h,_=>by simp at h
 |_::_,[],_,_,_,_,_,_,_,h=>by simp at h
 |(o,s)::r,g::ags,n,0,off,sz,ag,hh,h,h'=>by simp at h h';obtain⟨rfl,rfl⟩:=h;subst h';exact hh.1
 |(o,s)::r,g::ags,n,f+1,off,sz,ag,hh,h,h'=>by
  have:=ud.get (f:=f) (off:=off) (sz:=sz) (ag:=ag) hh.2 (by simpa using h) (by simpa using h')
  rwa [Nat.add_right_comm,Nat.add_assoc]at this
theorem fe{P:Program}{T:Nat}{zs:List Value}{pl:List (Nat×Nat)}{ags:List Bool}(h1:iz P T zs pl)(h2:wQ P T pl 0)(h3:ud P T pl ags 0):kV P T (.struct zs pl ags):=
 ⟨h1,λf off sz h=>by have:=h2.get h;rwa [Nat.zero_add]at this,λf off sz ag h h'=>by have:=h3.get h h';rwa [Nat.zero_add]at this⟩
variable {f:FuncId}
theorem SC.zF{P:Program}{σ0 σ2 σ3:Sto}{args:List AV}{r r':AV}(fz:List Nat)(h:b9 P f σ0 args (λa σ'=>a=r∧σ'=σ2))(hs:eB σ3.ids (σ2.freeze fz) r=some r')(ha:(σ2.freeze fz).at σ3.ids=some σ3):
  b9 P f σ0 args (λa σ'=>a=r'∧σ'=σ3):=λcx w I β vs h1 h2=>Calls.mono (h cx w I β vs h1 h2) λ_ _ ⟨v,he,r0,σ',I',β',⟨q1,q2⟩,q3,q4⟩=>by
 subst q1 q2;obtain⟨I2,hle,hw⟩:=q4.qI fz;refine⟨v,he,r',σ3,I2,β',⟨rfl,rfl⟩,(iC hs).rep hw v (ou hle (HLe.refl β') _ _ q3),hw.sub λd o hd=>?_⟩;obtain⟨p,p1,p2,p3⟩:=jo σ3 d o hd;rw[←p2,←p3];exact(Sto.iQ ha).1.mem p p1
theorem SC.at{P:Program}{f:FuncId}{σ0 σ2:Sto}{args:List AV}{r:AV}(l:List (Nat×Nat))(h:b9 P f σ0 args (λa σ'=>a=r∧σ'=σ2)):
  b9 P f (σ0.ren (pI l)) (o9 (pI l) args) (λa σ'=>a=r.ren (pI l)∧σ'=σ2.ren (pI l)):=
 (h.at l).mono λa s hh=>by
  obtain⟨a0,s0,⟨rfl,rfl⟩,h1,h2⟩:=hh;exact⟨h1,h2⟩
def ve(tb:Tb)(env:Env)(σ:Sto):ResultVar→Option AV
 |.tmp t=>env.find t
 |.cell a T=>match env.find a with
  |some (.ptr d 0)=>(match σ.get d with
   |some (.cells _ cs)=>(match tb.get T with
    |some i=>bif Nat.beq cs.length i.sz&&(i.ag||Nat.blt 0 i.sz)then ldO i.ag i.sz cs else none
    |none=>none)
   |_=>none)
  |_=>none
def aeK(tb:Tb)(env:Env)(σ:Sto):List ResultVar→Option (List AV)
 |[]=>some []
 |a::r=>match ve tb env σ a with|none=>none|some x=>match aeK tb env σ r with|none=>none|some xs=>some (x::xs)
def ahL(tb:Tb)(env:Env)(σ:Sto):List ResultVar→Option AV
 |[]=>some (.tup [])
 |[a]=>ve tb env σ a
 |[a,b]=>match ve tb env σ a with|none=>none|some x=>match ve tb env σ b with|none=>none|some y=>some (.tup [x,y])
 |[a,b,c]=>match ve tb env σ a with|none=>none|some x=>match ve tb env σ b with|none=>none|some y=>match ve tb env σ c with|none=>none|some z=>some (.tup [x,y,z])
 |a::b::c::d::r=>match aeK tb env σ (a::b::c::d::r)with|none=>none|some xs=>some (.tup xs)
variable {a:AV}
theorem oT{P:Program}{N:Nat}{ids:List Nat}{tb:Tb}(W:Wld P tb){env:Env}{σ:Sto}{v:ResultVar}(h:ve tb env σ v=some a):oy ⟨P,N,ids⟩ env σ v a:=by
 cases v with
 |tmp t=>exact RV.tmp h
 |cell p T=>
  simp only[ve]at h;split at h
  ·rename_i d hp;split at h
   ·rename_i T' cs hd;split at h
    ·rename_i i hT;generalize hb:(Nat.beq cs.length i.sz&&_)=bb at h;cases bb with
     |false=>cases h
     |true=>
      simp only[cond_true]at h;rw[Bool.and_eq_true]at hb;exact RV.cell (fm.get W.tys hT).ty (Env.gm hp) hd hb.1 hb.2 h
    ·cases h
   ·cases h
  ·cases h
theorem ad7{P:Program}{N:Nat}{ids:List Nat}{tb:Tb}(W:Wld P tb){env:Env}{σ:Sto}:∀{l:List ResultVar} {xs:List AV},aeK tb env σ l=some xs→yK ⟨P,N,ids⟩ env σ l xs
 |[],xs,h=>by cases h;exact .nil
 |a::r,xs,h=>by
  simp only[aeK]at h;split at h
  ·cases h
  ·rename_i x hx;split at h
   ·cases h
   ·rename_i ys hy;cases h;exact .cons (oT W hx) (ad7 W hy)
theorem alr{P:Program}{N:Nat}{ids:List Nat}{tb:Tb}(W:Wld P tb){env:Env}{σ:Sto}{l:List ResultVar}(h:ahL tb env σ l=some a):qg ⟨P,N,ids⟩ env σ l a:=by
 unfold ahL at h;split at h
 ·cases h;exact .zero
 ·exact .one (oT W h)
 ·split at h
  ·cases h
  ·rename_i x hx;split at h
   ·cases h
   ·rename_i y hy;cases h;exact .two (oT W hx) (oT W hy)
 ·split at h
  ·cases h
  ·rename_i x hx;split at h
   ·cases h
   ·rename_i y hy;split at h
    ·cases h
    ·rename_i z hz;cases h;exact .three (oT W hx) (oT W hy) (oT W hz)
 ·split at h
  ·cases h
  ·rename_i xs hxs;cases h;exact .more (ad7 W hxs) (by simp)
def ahM(tb:Tb)(ids:List Nat)(ms:List Mv)(ds:List Nat)(l:List ResultVar)(env:Env)(σ:Sto):Option (AV×Sto):=match uZ ids ms env σ with
 |none=>none
 |some (e,s)=>match ahL tb e s l with
  |none=>none
  |some a=>match eB ds s a with
   |none=>none
   |some b=>match s.at ds with
    |none=>none
    |some s2=>some (b,s2)
def nO(G:Gl)(fn:Func)(Post:AV→Sto→Prop):Exit→Env→Sto→Prop:=λe env σ=>∃bT σ2,aU G env σ bT σ2∧ad0 G fn Post e bT σ2
variable {fn:Func}
theorem A.fin{P:Program}{N:Nat}{ids:List Nat}{tb:Tb}(W:Wld P tb){env:Env}{σ σ2:Sto}{R:AV}{e:Exit}(ms:List Mv)(he:(match e with|.ret|.normal=>true|_=>false)=true)(h:ahM tb ids ms σ2.ids fn.results.toList env σ=some (R,σ2)):
  nO ⟨P,N,ids⟩ fn (λa σ'=>a=R∧σ'=σ2) e env σ:=by
 simp only[ahM]at h;split at h
 ·cases h
 ·rename_i e1 s1 hm;split at h
  ·cases h
  ·rename_i a ha;split at h
   ·cases h
   ·rename_i b hb;split at h
    ·cases h
    ·rename_i s2 hs;cases h;refine⟨e1,s1,ql hm,?_⟩;have key:∃fz x r σ',qg ⟨P,N,ids⟩ e1 (s1.freeze fz) fn.results.toList x∧eT (s1.freeze fz) x r∧(∀p∈σ',(s1.freeze fz).get p.1=some p.2)∧(r=R∧σ'=σ2):=by
      refine⟨[],a,R,σ2,?_,?_,?_,rfl,rfl⟩
      ·rw[Sto.me];exact alr W ha
      ·rw[Sto.me];exact iC hb
      ·rw[Sto.me];exact(Sto.iQ hs).1.mem
     cases e<;>first|exact key|cases he
theorem aZ{P:Program}{c:Code}{σ0:Sto}{args:List AV}{Post:AV→Sto→Prop}(hf:P.funcs[f]?=some fn)(hb:fn.body=some c)(hN:Nat.ble args.length fn.ntmps=true)
  (h:af ⟨P,fn.ntmps,σ0.ids⟩ c (nO ⟨P,fn.ntmps,σ0.ids⟩ fn Post) (r9 0 args) σ0):b9 P f σ0 args Post:=
 b9.enter hf hb (Nat.le_of_ble_eq_true hN) λ_=>A.late h
end
end Go.Proofs.YtmnbolcmepihlaaGreat
