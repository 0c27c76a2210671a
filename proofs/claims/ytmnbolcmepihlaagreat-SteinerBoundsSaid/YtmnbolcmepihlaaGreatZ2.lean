/- Several texts in one. No condition but those that stand in each. -/
import Derived.Test.YtmnbolcmepihlaaGreatZ1
import Derived.Lib.SliceRun
import Derived.Laws.BytesString
import Derived.Scope
import Derived.Below
import Derived.ChangeSame
import Derived.WideKeyArgs
import Derived.ProofKit
import Derived.LoopN
namespace Go.Proofs.YtmnbolcmepihlaaGreat
section
set_option linter.all false
open Go List
section
def aM{α β:Type}(o:Option α)(k:α→Option β):Option β:=match o with|none=>none|some a=>k a
def jF{β:Type}(c:Bool)(k:Option β):Option β:=bif c then k else none
def jn{σ β:Type}(k:σ→Option β)(t:(σ→Option β)→Option β):Option β:=t k
def eE{α σ β:Type}:List α→Nat→(Int→α→(σ→Option β)→σ→Option β)→(σ→Option β)→σ→Option β
 |[],_,_,K,s=>K s
 |x::r,j,B,K,s=>B (j:Int) x (eE r (j+1) B K) s
def nB{σ β:Type}:Nat→Int→(Int→(σ→Option β)→σ→Option β)→(Int→σ→Option β)→σ→Option β
 |0,i,_,K,s=>K i s
 |n+1,i,B,K,s=>B i (nB n (i+1) B K) s
def iter{σ β:Type}(F:(σ→Option β)→σ→Option β):Nat→σ→Option β
 |0,_=>none
 |n+1,s=>F (iter F n) s
def fuel:Nat:=1099511627776
def iV{σ β:Type}(F:(σ→Option β)→σ→Option β)(s:σ):Option β:=iter F fuel s
def aG(n:Int):Int:=IntKind.wrap .i64 n
def du{α:Type}(l:List α)(i:Int):Option α:=if 0≤i then l[i.toNat]? else none
def jC{α:Type}(l:List α)(i:Int)(x:α):Option (List α):=if 0≤i∧i<l.length then some (l.set i.toNat x)else none
def aV:Nat:=549755813888
def iP{α:Type}(l r:List α):Option (List α):=if l.length+r.length≤aV then some (l++r)else none
def wg{α:Type}(l:List α)(a b:Int):Option (List α):=if 0≤a∧a≤b∧b≤l.length then some ((l.take b.toNat).drop a.toNat)else none
def N6(s:ByteArray)(n:Int):Option UInt8:=if 0≤n then s[n.toNat]? else none
def abE{s:ByteArray}{n:Int}{b:UInt8}(h:N6 s n=some b):0≤n∧s[n.toNat]?=some b:=by
 unfold N6 at h;split at h
 ·exact⟨‹_›,h⟩
 ·cases h
variable {α β:Type}{r:β}
def bo{o:Option α}{k:α→Option β}(h:aM o k=some r):∃a,o=some a∧k a=some r:=by
 cases o with
 |none=>cases h
 |some a=>exact⟨a,rfl,h⟩
def pX{c:Bool}{k:Option β}(h:jF c k=some r):c=true∧k=some r:=by
 cases c with
 |false=>cases h
 |true=>exact⟨rfl,h⟩
def cg{c:Bool}{x y:Option β}(h:(bif c then x else y)=some r):(c=true∧x=some r)∨(c=false∧y=some r):=by
 cases c with
 |false=>exact .inr ⟨rfl,h⟩
 |true=>exact .inl ⟨rfl,h⟩
variable {σ:Type}
def jd{k:σ→Option β}{t:(σ→Option β)→Option β}(h:jn k t=some r):∃J,J=k∧t J=some r:=⟨k,rfl,h⟩
def jN{a b:α}(h:some a=some b):a=b:=by injection h
variable {j:Nat}{l:List α}
def hJ{b:Int→α→(σ→Option β)→σ→Option β}{k:σ→Option β}{s:σ}(h:eE l j b k s=some r):
  ∃B K,B=b∧K=k∧eE l j B K s=some r:=⟨b,k,rfl,rfl,h⟩
variable {i:Int}
def yF{n:Nat}{b:Int→(σ→Option β)→σ→Option β}{k:Int→σ→Option β}{s:σ}(h:nB n i b k s=some r):
  ∃B K,B=b∧K=k∧nB n i B K s=some r:=⟨b,k,rfl,rfl,h⟩
def mM{f:(σ→Option β)→σ→Option β}{s:σ}(h:iV f s=some r):∃F n,F=f∧iter F n s=some r:=⟨f,_,rfl,h⟩
variable {x:α}
def pY[Inhabited α](h:du l i=some x):(0≤i∧i<l.length)∧el l i=x:=by
 unfold du at h;split at h
 ·rename_i bJ;obtain⟨h1,D⟩:=List.getElem?_eq_some_iff.1 h;refine⟨⟨bJ,by omega⟩,?_⟩;simp[el,getD_eq_getElem?_getD,h]
 ·cases h
def fS(h:l[j]?=some x):du l (j:Int)=some x:=by
 unfold du;rw[if_pos (by omega)];simpa using h
variable {m:List α}
def aaE(h:jC l i x=some m):(0≤i∧i<l.length)∧l.set i.toNat x=m:=by
 unfold jC at h;split at h
 ·exact⟨‹_›,jN h⟩
 ·cases h
def QL{r:List α}(h:iP l r=some m):l.length+r.length≤aV∧l++r=m:=by
 unfold iP at h;split at h
 ·exact⟨‹_›,jN h⟩
 ·cases h
variable {a:Int}
def aaF{b:Int}(h:wg l a b=some m):(0≤a∧a≤b∧b≤l.length)∧(l.take b.toNat).drop a.toNat=m:=by
 unfold wg at h;split at h
 ·exact⟨‹_›,jN h⟩
 ·cases h
structure kC(α:Type) where
 enc:α→List W
 sz:Nat
 hz:∀r,(enc r).length=sz
 one:∀r,(enc r).all W.one=true
 cl:∀r,nm (enc r)=true
def ar{α:Type}(e:kC α)(l:List α):List (List W):=l.map e.enc
def oM(e:kC α)(l:List α):(ar e l).length=l.length:=by simp[ar]
def HE(e:kC α)(l:List α):∀x∈ar e l,x.length=e.sz:=λx u=>by
 obtain⟨r,_,rfl⟩:=List.mem_map.1 u;exact e.hz r
def aga(e:kC α)(l:List α):(ar e l).flatten.all W.one=true:=adj e.enc e.one l
def aB:kC Int:=⟨encI,1,λ_=>rfl,λ_=>rfl,λ_=>rfl⟩
def i5:kC Bool:=⟨λb=>[.bool b],1,λ_=>rfl,λ_=>rfl,λ_=>rfl⟩
def wN{α:Type}(e:kC α):kC (List α):=⟨λl=>[.bf false (ar e l)],1,λ_=>rfl,λ_=>rfl,λ_=>rfl⟩
def xZ(sz:Nat)(xs:List (List W))(i:Int)(row:List W):Prop:=(∀e∈xs,e.length=sz)∧0≤i∧i<xs.length∧el xs i=row
def ix(e:kC α)(h:du l i=some x):xZ e.sz (ar e l) i (e.enc x):=by
 refine⟨HE e l,?_⟩;unfold du at h;split at h
 ·rename_i bJ;obtain⟨h1,D⟩:=List.getElem?_eq_some_iff.1 h;exact⟨bJ,by rw[oM];omega,by simp[ar,el,getD_eq_getElem?_getD,h]⟩
 ·cases h
def Br(sz bytes:Nat)(xs bF zs:List (List W)):Prop:=
 xs++bF=zs∧(∀e∈xs,e.length=sz)∧(∀e∈bF,e.length=sz)∧bF.flatten.all W.one=true∧(xs.length+bF.length)*bytes≤140737488355328∧xs.length+bF.length≤maxLen
def ap(e:kC α){bytes:Nat}(U:bytes≤256){r:List α}(h:iP l r=some m):Br e.sz bytes (ar e l) (ar e r) (ar e m):=by
 obtain⟨h1,D⟩:=QL h;unfold aV at h1;refine⟨by rw[←D];simp[ar],HE e l,HE e r,aga e r,?_,?_⟩
 ·rw[oM,oM];exact Nat.le_trans (Nat.mul_le_mul_left _ U) (by omega)
 ·rw[oM,oM];unfold maxLen;omega
def Hp(sz:Nat)(xs:List (List W))(i:Int)(off:Nat)(ca:List W)(zs:List (List W)):Prop:=
 xZ sz xs i (el xs i)∧zs=xs.set i.toNat (jq (el xs i) off ca)
def st[Inhabited α](e:kC α){y:α}{off:Nat}{ca:List W}(u:du l i=some x)(h:jC l i y=some m)(ah:jq (e.enc x) off ca=e.enc y):Hp e.sz (ar e l) i off ca (ar e m):=by
 have h1:=ix e u;obtain⟨D,aq,aZ,bV⟩:=h1;refine⟨⟨D,aq,aZ,rfl⟩,?_⟩;rw[bV,ah,←(aaE h).2];simp[ar,List.map_set]
def vn(sz:Nat)(xs:List (List W))(a b:Int)(zs:List (List W)):Prop:=(∀e∈xs,e.length=sz)∧(0≤a∧a≤b∧b≤xs.length)∧(xs.take b.toNat).drop a.toNat=zs
def sl(e:kC α){b:Int}(h:wg l a b=some m):vn e.sz (ar e l) a b (ar e m):=by
 obtain⟨h1,D⟩:=aaF h;exact⟨HE e l,by rw[oM];exact h1,by rw[←D];simp[ar,map_drop,map_take]⟩
def c9(k:IntKind)(n:Int):W:=.int k n
def ih(b:Bool):W:=.bool b
def Hj(P:Program)(E:Nat)(k:IntKind)(bL:List (W×W))(n:Int)(a:W)(b:Bool):Prop:=∃(α:Type) (l:List (Int×α)) (enc:α→W) (z:α),
 bL=bM k enc l∧a=enc ((az l n).getD z)∧b=(az l n).isSome∧(∀w,∃v,(zeroValue E).run P w=.ok v w∧∀I,bm I (enc z) v)
def D5(k:IntKind)(bL:List (W×W))(n:Int)(v:W)(nw:List (W×W)):Prop:=∃(α:Type) (l:List (Int×α)) (enc:α→W) (x:α),bL=bM k enc l∧v=enc x∧(enc x).closed=true∧nw=bM k enc (bH l n x)
def Hk(k:IntKind)(bL:List (W×W))(n:Int):Prop:=∃(α:Type) (l:List (Int×α)) (enc:α→W),bL=bM k enc l∧n=l.length
variable {enc:α→W}{k:IntKind}
def lk{P:Program}{E:Nat}(l:List (Int×α))(n:Int)(z:α)(hz:∀w,∃v,(zeroValue E).run P w=.ok v w∧∀I,bm I (enc z) v):Hj P E k (bM k enc l) n (enc ((az l n).getD z)) (az l n).isSome:=⟨α,l,enc,z,rfl,rfl,rfl,hz⟩
def rZ(l:List (Int×α))(n:Int)(x:α)(ah:(enc x).closed=true):D5 k (bM k enc l) n (enc x) (bM k enc (bH l n x)):=⟨α,l,enc,x,rfl,rfl,ah,rfl⟩
def lm(l:List (Int×α)):Hk k (bM k enc l) (l.length:Int):=⟨α,l,enc,rfl,rfl⟩
def K0:Nat→List (List W)→Prop
 |0,xs=>xs.length≤maxLen
 |n+1,xs=>xs.length≤maxLen∧∀e∈xs,∀f bF,W.bf f bF∈e→K0 n bF
def pn(xs:List (List W)):Prop:=∀n,K0 n xs
def pn.len{xs:List (List W)}(h:pn xs):xs.length≤maxLen:=h 0
def iY{n:Int}(h1 : -9223372036854775808≤n)(D:n≤9223372036854775807):aG n=n:=Lf h1 D
def hg{e:kC α}(h:l[j]?=some x)(U:pn (ar e l)):W.int .i64 (IntKind.wrap .i64 ((j:Int)+1))=.int .i64 ((j+1:Nat):Int):=by
 obtain⟨h1,_⟩:=List.getElem?_eq_some_iff.1 h;have U:=U.len;rw[oM]at U;unfold maxLen at U;rw[show IntKind.wrap .i64 ((j:Int)+1)=(j:Int)+1 from Lf (by omega) (by omega)];rfl
def ze{hi:Int}(bJ : -9223372036854775808≤i)(h:i<hi)(U:hi≤9223372036854775807):W.int .i64 (IntKind.wrap .i64 (i+1))=.int .i64 (i+1):=by
 rw[show IntKind.wrap .i64 (i+1)=i+1 from Lf (by omega) (by omega)]
def dZ(e:kC α)(l:List α):W.int .i64 ((ar e l).length:Int)=.int .i64 (l.length:Int):=by rw[oM]
def xV{α:Type}(eA:α→α→Int)(x:α):List α→List α
 |[]=>[x]
 |y::r=>if eA y x<0 then y::xV eA x r else x::y::r
def pM{α:Type}(eA:α→α→Int):List α→List α
 |[]=>[]
 |x::r=>xV eA x (pM eA r)
def wh{α:Type}(eA:α→α→Int):List α→Bool
 |a::b::r=>decide (eA a b<0)&&wh eA (b::r)
 |_=>true
def l2{α:Type}(eA:α→α→Int)(l:List α):Option (List α):=bif wh eA (pM eA l)&&decide (l.length<4611686018427387904)then some (pM eA l)else none
def Ka{α:Type}(eA:α→α→Int)(x:α):∀l:List α,(xV eA x l).Perm (x::l)
 |[]=>.refl _
 |y::r=>by
  simp only[xV];split
  ·exact((Ka eA x r).cons y).trans (.swap x y r)
  ·exact .refl _
def w8{α:Type}(eA:α→α→Int):∀l:List α,(pM eA l).Perm l
 |[]=>.refl _
 |x::r=>(Ka eA x _).trans ((w8 eA r).cons x)
def ON{α:Type}{eA:α→α→Int}(b5:∀a b c,eA a b<0→eA b c<0→eA a c<0):∀{l:List α},wh eA l=true→l.Pairwise λa b=>eA a b<0
 |[],_=>.nil
 |[x],_=>by simp
 |a::b::r,h=>by
  simp only[wh,Bool.and_eq_true,decide_eq_true_eq]at h;have bu:=ON b5 h.2;rw[pairwise_cons];refine⟨λz hz=>?_,bu⟩;rcases mem_cons.1 hz with rfl|hz
  ·exact h.1
  ·exact b5 _ _ _ h.1 ((pairwise_cons.1 bu).1 z hz)
def aat{eA:α→α→Int}(b5:∀a b c,eA a b<0→eA b c<0→eA a c<0)(h:l2 eA l=some m):m.Perm l∧(m.Pairwise λa b=>eA a b<0)∧l.length<4611686018427387904:=by
 unfold l2 at h;cases U:(wh eA (pM eA l)&&decide (l.length<4611686018427387904))with
 |false=>rw[U]at h;cases h
 |true=>
  rw[U]at h;cases h
  simp only[Bool.and_eq_true,decide_eq_true_eq]at U;exact⟨w8 eA l,ON b5 U.1,U.2⟩
def Y3{α:Type}{eA:α→α→Int}:∀{d m:List α},d.Perm m→(m.Pairwise λa b=>eA a b<0)→(d.Pairwise λa b=>¬eA b a<0)→d=m
 |[],m,aF,_,_=>aF.symm.eq_nil.symm
 |x::d,[],aF,_,_=>by have:=aF.eq_nil;cases this
 |x::d,y::m,aF,h1,D=>by
  rw[pairwise_cons]at h1 D;have u:x=y:=by
   refine Classical.byContradiction λcA=>?_;have iM:x∈m:=by
    have:=aF.mem_iff.1 (mem_cons_self (a:=x) (l:=d));rcases mem_cons.1 this with e|e
    ·exact absurd e cA
    ·exact e
   have a2:y∈d:=by
    have:=aF.mem_iff.2 (mem_cons_self (a:=y) (l:=m));rcases mem_cons.1 this with e|e
    ·exact absurd e.symm cA
    ·exact e
   exact D.1 y a2 (h1.1 x iM)
  subst u;rw[Y3 (List.Perm.cons_inv aF) h1.2 D.2]
def fC{α:Type}:List (α→Int)→α→α→Int
 |[],_,_=>0
 |k::r,a,b=>if k a<k b then -1 else if k b<k a then 1 else fC r a b
def qX(k:α→Int)(r:List (α→Int))(a b:α):fC (k::r) a b<0↔k a<k b∨k a=k b∧fC r a b<0:=by
 simp only[fC];split
 ·rename_i h;exact⟨λ_=>.inl h,λ_=>by omega⟩
 ·split
  ·rename_i h1 D;exact⟨λh=>by omega,λh=>by omega⟩
  ·rename_i h1 D;have:k a=k b:=by omega
   exact⟨λh=>.inr ⟨this,h⟩,λh=>by rcases h with h|h;exact absurd h h1;exact h.2⟩
def Y4{α:Type}:∀(l:List (α→Int)) (a:α),¬fC l a a<0
 |[],_=>by simp[fC]
 |k::r,a=>by rw[qX];intro h;rcases h with h|h;omega;exact Y4 r a h.2
def xc{α:Type}:∀(l:List (α→Int)) (a b c:α),fC l a b<0→fC l b c<0→fC l a c<0
 |[],_,_,_=>by simp[fC]
 |k::r,a,b,c=>by
  simp only[qX];intro h1 D;rcases h1 with h1|h1<;>rcases D with D|D
  ·exact .inl (by omega)
  ·exact .inl (by omega)
  ·exact .inl (by omega)
  ·exact .inr ⟨by omega,xc r a b c h1.2 D.2⟩
def Y5{α:Type}:∀(l:List (α→Int)) (a b c:α),¬fC l a b<0→¬fC l b c<0→¬fC l a c<0
 |[],_,_,_=>by simp[fC]
 |k::r,a,b,c=>by
  simp only[qX];intro h1 D h;rcases h with h|⟨h,aq⟩
  ·by_cases e:k a<k b
   ·exact h1 (.inl e)
   ·exact D (.inl (by omega))
  ·by_cases aK:k a<k b
   ·exact h1 (.inl aK)
   by_cases e2:k b<k c
   ·exact D (.inl e2)
   have dj:k a=k b:=by omega
   have fF:k b=k c:=by omega
   exact Y5 r a b c (λq=>h1 (.inr ⟨dj,q⟩)) (λq=>D (.inr ⟨fF,q⟩)) aq
end
section
inductive Qn where
 |int (k:IntKind)
 |bool
 |str
 |slice (E sz bytes:Nat) (zs:dQ)
 |map (K E:Nat) (k:IntKind)
 |struct (zs:dQ) (gm:List (Nat×Nat)) (rD:rT)
 |oH
structure fl where
 sz:Nat
 dW:Bool
 zs:Option (List Value)
 kd:Qn
def nR(P:Program)(T:Nat):Qn→Prop
 |.int k=>P.underlying T=some (.int k)
 |.bool=>P.underlying T=some .bool
 |.str=>P.underlying T=some .string
 |.slice E sz bytes zs=>lT P T E sz∧kO P T E sz bytes∧nA P T E sz zs
 |.map K E k=>k4 P T K E k
 |.struct zs gm rD=>lD P T zs gm∧(∀f off sz,gm[f]?=some (off,sz)→hr P T f off)∧∀f off sz dW,gm[f]?=some (off,sz)→rD[f]?=some dW→hl P T f off sz dW
 |.oH=>True
structure fA(P:Program)(T:Nat)(i:fl):Prop where
 ty:dS P T i.sz i.dW
 arb:∀zs,i.zs=some zs→∀w,∃z,(zeroValue T).run P w=.ok z w∧z.cells=zs.toArray
 kd:nR P T i.kd
abbrev hI:=List (Nat×fl)
def hI.get:hI→Nat→Option fl
 |[],_=>none
 |(k,v)::r,n=>bif Nat.beq k n then some v else hI.get r n
def ki(P:Program):hI→Prop
 |[]=>True
 |(k,v)::r=>fA P k v∧ki P r
def ki.get{P:Program}:∀{bY:hI} {T:Nat} {i:fl},ki P bY→bY.get T=some i→fA P T i
 |[],_,_,_,h=>by simp[hI.get]at h
 |(k,v)::r,T,i,b0,h=>by
  simp only[hI.get]at h;cases hk:Nat.beq k T<;>rw[hk]at h
  ·exact ki.get b0.2 h
  ·simp only[cond_true,Option.some.injEq]at h;have:k=T:=by simpa using hk
   subst this h;exact b0.1
structure kJ(P:Program)(bY:hI):Prop where
 mix:P.follows .mixedOrders=true
 tys:ki P bY
structure c0(P:Program)(f:FuncId):Prop where
 h:∀(args:jc) (w:World),(callFunc f args).run P w=.ok (.enter f args) w
def Me:cE→Prop
 |.slice _ _ xs _ _=>∀e∈xs,rY e=true
 |.map _ _ bL=>∀p∈bL,p.1.jK=true∧p.2.jK=true
 |_=>False
def y2:ag→Prop
 |[]=>True
 |p::r=>Me p.2∧y2 r
def HX(a:W):Prop:=∀(I:bG) (β:Nat→Value) v,aC I β a v→∃p n c,v=.slice (some p) n c
def abF{f:Bool}{xs:List (List W)}(h:xs≠[]):HX (.bf f xs):=λI β v aa=>by
 simp only[aC,bm]at aa;obtain⟨a,c,rfl,_,_,_,bV|⟨b,o,rfl,_⟩⟩:=aa
 ·exact absurd bV h
 ·exact⟨_,_,_,rfl⟩
def abG:HX .k7:=λI β v aa=>by
 simp only[aC,bm]at aa;obtain⟨a,c,rfl,_⟩:=aa;exact⟨_,_,_,rfl⟩
abbrev di:=List W×ag
inductive dw where
 |y (R:dI) (b9:W)
 |v (d:Nat) (bc:cE) (b9:W)
 |e (M news:dI) (b9:W) (aH:ag)
def gj(G:cR)(o:Oper)(env:au)(σ:ag):dw→Prop
 |.y R b9=>Yields G o env.ev σ [] R b9
 |.v d bc b9=>G.ids.contains d=false∧Yields G o env.ev ((d,bc)::σ) [d] [d] b9
 |.e M news b9 aH=>i2 G o env.ev σ M news (λa s=>a=b9∧s=aH)∧news.all (λd=>!G.ids.contains d)=true
inductive Hint(P:Program):Type where
 |EA
 |al (d:Nat)
 |to (h:Hint P) (a b:W) (e:a=b)
 |ix (sz:Nat) (xs:List (List W)) (i:Int) (row:List W) (cp:xZ sz xs i row)
 |lo (d sz:Nat) (xs:List (List W)) (i:Int) (off:Nat) (row:List W) (cp:xZ sz xs i row)
 |so (d sz:Nat) (xs:List (List W)) (i:Int) (off:Nat) (ca:List W) (zs:List (List W)) (cp:Hp sz xs i off ca zs) (k:Nat) (hk:(k:Int)≤i)
 |rf (f:FuncId) (vt dX:List W) (r:W) (cp:dR P f [] (dX++vt) r) (ah:c0 P f)
 |ro (xJ:Nat) (f:FuncId) (σs:ag) (dX:List W) (r:W) (cp:dR P f σs dX r) (ah:c0 P f)
 |le (dB:dI) (f:FuncId) (dX:List W) (r:W) (cp:dR P f [] dX r) (ah:c0 P f)
 |pz (news:dI) (f:FuncId) (dG:ag) (dX:List W) (r:W) (σ2:ag) (cp:eT P f dG dX (λa aH=>a=r∧aH=σ2)) (ah:c0 P f)
 |dl (dB news:dI) (f:FuncId) (dX:List W) (r:W) (σ2:ag) (cp:eT P f [] dX (λa aH=>a=r∧aH=σ2)) (ah:c0 P f) (B8:y2 σ2)
 |gs (B5:Bool) (ex:di) (f:dI→Op→au→ag→Option (dw×di)) (cp:∀(o:Oper) (N:Nat) (ids:dI) (env:au) (σ:ag) (s:dw) (bc:di),f ids o.op env σ=some (s,bc)→bc=ex→gj ⟨P,N,ids⟩ o env σ s)
 |ap (d2 sz bytes:Nat) (xs bF zs:List (List W)) (cp:Br sz bytes xs bF zs)
 |ws (d2 sz:Nat) (xs:List (List W)) (a:Int) (zs:List (List W)) (cp:vn sz xs a xs.length zs)
 |sl (sz:Nat) (xs:List (List W)) (a b:Int) (zs:List (List W)) (cp:vn sz xs a b zs)
 |qr (n:Int) (cp:n≠0)
 |sh (n:Int) (cp:0≤n)
 |is (s:ByteArray) (n:Int) (b:UInt8) (cp:0≤n∧s[n.toNat]?=some b)
 |lk (E:Nat) (k:IntKind) (bL:List (W×W)) (n:Int) (a:W) (b:Bool) (cp:Hj P E k bL n a b)
 |rZ (k:IntKind) (bL:List (W×W)) (n:Int) (v:W) (nw:List (W×W)) (cp:D5 k bL n v nw)
 |lm (k:IntKind) (bL:List (W×W)) (n:Int) (cp:Hk k bL n)
 |OV (neg:Bool) (T:Nat) (a b:W) (r:Bool) (cp:∀(x y:Operand) w,(do eqGuard (bif neg then .neq else .eql) T x y (valOf a) (valOf b);binOp (bif neg then .neq else .eql) T (valOf a) (valOf b):Sem Value).run P w=.ok (.bool r) w)
 |Gx (neg:Bool) (a:W) (cp:HX a)
 |s3 (sz:Nat) (xs:List (List W)) (a b:Int) (zs:List (List W)) (cp:vn sz xs a b zs)
 |pu (T be:Nat) (a r:W) (cp:∀(o:Oper) (N:Nat) (ids:dI) (ev:Operand→W) (σ:ag) (x:Operand),o.op=.convert T be x→ev x=a→Yields ⟨P,N,ids⟩ o ev σ [] [] r)
 |pb (op:BinOp) (T:Nat) (a b r:W) (cp:∀(o:Oper) (N:Nat) (ids:dI) (ev:Operand→W) (σ:ag) (x y:Operand) (be:Nat),o.op=.binOp op T x y be→ev x=a→ev y=b→Yields ⟨P,N,ids⟩ o ev σ [] [] r)
def Hint.exp{P:Program}:Hint P→di
 |.EA|.al _=>([],[])
 |.to h a _ _=>(a::h.exp.1,h.exp.2)
 |.ix _ xs i _ _=>([.bf false xs,.int .i64 i],[])
 |.lo d sz xs i off _ _=>([.bf false xs,.ptr d (i.toNat*sz+off)],[])
 |.so d sz xs i off ca _ _ _ _=>([.bf false xs,.ptr d (i.toNat*sz+off),.agg ca],[])
 |.rf f vt dX _ _ _=>(.fn f vt::dX,[])
 |.ro _ f σs dX _ _ _=>(.fn f []::dX,σs)
 |.le _ f dX _ _ _=>(.fn f []::dX,[])
 |.pz _ f dG dX _ _ _ _=>(.fn f []::dX,dG)
 |.dl _ _ f dX _ _ _ _ _=>(.fn f []::dX,[])
 |.gs _ ex _ _=>ex
 |.ap _ _ _ xs bF _ _=>([.bf false xs,.bf false bF],[])
 |.ws _ _ xs a _ _=>([.bf false xs,.int .i64 a],[])
 |.sl _ xs a b _ _=>([.bf false xs,.int .i64 a,.int .i64 b],[])
 |.qr n _|.sh n _=>([.int .i64 n],[])
 |.is s n _ _=>([.str s,.int .i64 n],[])
 |.lk _ _ bL n _ _ _=>([.int .i64 n],[(0,.map 0 0 bL)])
 |.rZ _ bL n v _ _=>([.int .i64 n,v],[(0,.map 0 0 bL)])
 |.lm _ bL _ _=>([],[(0,.map 0 0 bL)])
 |.OV _ _ a b _ _=>([a,b],[])
 |.Gx _ a _=>([a],[])
 |.s3 _ xs a b _ _=>([.bf false xs,.int .i64 a,.int .i64 b,.int .i64 b],[])
 |.pu _ _ a _ _=>([a],[])
 |.pb _ _ a b _ _=>([a,b],[])
mutual
def u3:W→W
 |.bf true xs=>.bf false xs
 |.c6=>.bf false []
 |.agg cs=>.agg (PS cs)
 |a=>a
def PS:List W→List W
 |[]=>[]
 |x::r=>u3 x::PS r
end
mutual
def OT{σ:ag}:∀a:W,jJ σ a (u3 a)
 |.bf true xs=>.full xs
 |.c6=>.nil false
 |.agg cs=>.agg (YG cs)
 |.bf false _|.fP|.undef|.int _ _|.bool _|.str _|.gq _|.oC|.k7|.own _|.ptr _ _|.dm _|.e7 _ _|.c5 _|.fn _ _|.ja _ _|.c7 _|.arr _=>.refl _
def YG{σ:ag}:∀l:List W,mP σ l (PS l)
 |[]=>.nil
 |x::r=>.cons (OT x) (YG r)
end
variable {G:cR}{o:Oper}{σ:ag}
def Yields.off{ev:Operand→W}{eM R:dI}{b9:W}(h:Yields G o (λx=>u3 (ev x)) σ eM R b9):Yields G o ev σ eM R b9:=
 λaH cx I β w bn c3 av hm hop=>h aH cx I β w bn c3 av hm λx u=>(OT (ev x)).rep av _ (hop x u)
def i2.off{ev:Operand→W}{M news:dI}{Φ:W→ag→Prop}(h:i2 G o (λx=>u3 (ev x)) σ M news Φ):i2 G o ev σ M news Φ:=
 λcx I β w bn av hop=>h cx I β w bn av λx u=>(OT (ev x)).rep av _ (hop x u)
def En:List (Nat×W)→List (Nat×W)
 |[]=>[]
 |p::r=>(p.1,u3 p.2)::En r
def PT{ev:Operand→W}:∀l:List (Nat×Operand),En (l.map λp=>(p.1,ev p.2))=l.map λp=>(p.1,u3 (ev p.2))
 |[]=>rfl
 |p::r=>by simp only[map_cons,En,PT r]
mutual
def kj(kp:dI)(σ:ag):W→Option W
 |.own d=>bif kp.contains d then some (.own d)else match σ.get d with
  |some (.slice _ _ xs _ true)=>some (.bf false xs)
  |some (.win _ _ xs)=>some (.bf false xs)
  |_=>none
 |.dm d=>bif kp.contains d then some (.dm d)else match σ.get d with
  |some (.k3 _ _ bL)=>some (.c7 bL)
  |_=>some (.dm d)
 |.c6=>some (.bf false [])
 |.k7=>some (.bf false [])
 |.bf true xs=>some (.bf false xs)
 |.agg cs=>match u4 kp σ cs with|none=>none|some l=>some (.agg l)
 |.c5 cs=>match u4 kp σ cs with|none=>none|some l=>some (.c5 l)
 |.fn f cs=>match u4 kp σ cs with|none=>none|some l=>some (.fn f l)
 |a=>some a
def u4(kp:dI)(σ:ag):List W→Option (List W)
 |[]=>some []
 |x::r=>match kj kp σ x with
  |none=>none
  |some a=>match u4 kp σ r with
   |none=>none
   |some l=>some (a::l)
end
mutual
def u0{kp:dI}{σ:ag}:∀{a b:W},kj kp σ a=some b→jJ σ a b
 |.own d,b,h=>by
  simp only[kj]at h;cases hk:kp.contains d with
  |true=>rw[hk]at h;simp only[cond_true,Option.some.injEq]at h;subst h;exact .refl _
  |false=>
   rw[hk]at h;simp only[cond_false]at h;split at h
   ·rename_i af;simp only[Option.some.injEq]at h;subst h;exact .own af
   ·rename_i af;simp only[Option.some.injEq]at h;subst h;exact .win af
   ·cases h
 |.dm d,b,h=>by
  simp only[kj]at h;cases hk:kp.contains d with
  |true=>rw[hk]at h;simp only[cond_true,Option.some.injEq]at h;subst h;exact .refl _
  |false=>
   rw[hk]at h;simp only[cond_false]at h;split at h
   ·rename_i af;simp only[Option.some.injEq]at h;subst h;exact .k3 af
   ·cases h;exact .refl _
 |.c7 _,b,h=>by simp only[kj,Option.some.injEq]at h;subst h;exact .refl _
 |.arr _,b,h=>by simp only[kj,Option.some.injEq]at h;subst h;exact .refl _
 |.c6,b,h=>by simp only[kj,Option.some.injEq]at h;subst h;exact .nil false
 |.k7,b,h=>by simp only[kj,Option.some.injEq]at h;subst h;exact .k7
 |.bf true xs,b,h=>by simp only[kj,Option.some.injEq]at h;subst h;exact .full xs
 |.agg cs,b,h=>by
  simp only[kj]at h;split at h
  ·cases h
  ·rename_i l aJ;simp only[Option.some.injEq]at h;subst h;exact .agg (AP aJ)
 |.c5 cs,b,h=>by
  simp only[kj]at h;split at h
  ·cases h
  ·rename_i l aJ;simp only[Option.some.injEq]at h;subst h;exact .c5 (AP aJ)
 |.fn f cs,b,h=>by
  simp only[kj]at h;split at h
  ·cases h
  ·rename_i l aJ;simp only[Option.some.injEq]at h;subst h;exact .fn (AP aJ)
 |.bf false _,b,h|.fP,b,h|.undef,b,h|.int _ _,b,h|.bool _,b,h|.str _,b,h|.gq _,b,h|.oC,b,h|.ptr _ _,b,h|.e7 _ _,b,h|.ja _ _,b,h=>by
  simp only[kj,Option.some.injEq]at h;subst h;exact .refl _
def AP{kp:dI}{σ:ag}:∀{a b:List W},u4 kp σ a=some b→mP σ a b
 |[],b,h=>by simp only[u4,Option.some.injEq]at h;subst h;exact .nil
 |x::r,b,h=>by
  simp only[u4]at h;split at h
  ·cases h
  ·rename_i a aA;split at h
   ·cases h
   ·rename_i l aJ;simp only[Option.some.injEq]at h;subst h
    exact .cons (u0 aA) (AP aJ)
end
def ag.at(σ:ag):dI→Option ag
 |[]=>some []
 |d::r=>match σ.get d with
  |none=>none
  |some o=>match ag.at σ r with
   |none=>none
   |some l=>some ((d,o)::l)
def avU{σ:ag}:∀{dB:dI} {l:ag},σ.at dB=some l→va σ l∧l.ids=dB
 |[],l,h=>by simp only[ag.at,Option.some.injEq]at h;subst h;exact⟨trivial,rfl⟩
 |d::r,l,h=>by
  simp only[ag.at]at h;split at h
  ·cases h
  ·rename_i o an;split at h
   ·cases h
   ·rename_i m hm;simp only[Option.some.injEq]at h;subst h
    obtain⟨h1,D⟩:=avU hm;exact⟨⟨an,h1⟩,by simp only[ag.ids,map_cons]at D ⊢;rw[D]⟩
def uo(f:W→Option W):List W→Option (List W)
 |[]=>some []
 |x::r=>match f x with
  |none=>none
  |some a=>match uo f r with
   |none=>none
   |some l=>some (a::l)
def uq:Nat→ag→W→Option W
 |0,_,_=>none
 |n+1,σ,a=>match a with
  |.own d=>(match σ.get d with|some (.slice _ _ xs _ _)=>some (.bf false xs)|some (.win _ _ xs)=>some (.bf false xs)|_=>none)
  |.ptr d p=>(match σ.get d with
   |some (.cells _ cs)=>(match uo (uq n σ) (cs.drop p)with|none=>none|some l=>some (.gq l))
   |_=>none)
  |.c6=>some (.bf false [])
  |.bf true xs=>some (.bf false xs)
  |.agg cs=>(match uo (uq n σ) cs with|none=>none|some l=>some (.agg l))
  |.c5 cs=>(match uo (uq n σ) cs with|none=>none|some l=>some (.c5 l))
  |.fn f cs=>(match uo (uq n σ) cs with|none=>none|some l=>some (.fn f l))
  |.dm d=>(match σ.get d with|some (.map _ _ bL)=>some (.c7 bL)|some (.k3 _ _ bL)=>some (.c7 bL)|some (.hM _ _ _ _ bL)=>some (.c7 bL)|_=>none)
  |.ja _ _=>none
  |.k7=>some (.bf false [])
  |a=>some a
def AT{f:W→Option W}{I J:bG}{β:Nat→Value}(bA:∀a b,f a=some b→∀v,aC I β a v→bm J b v):∀{l m:List W},uo f l=some m→∀vs,b8 I β l vs→ds J m vs
 |[],m,h,vs,aI=>by simp only[uo,Option.some.injEq]at h;subst h;exact aI
 |x::r,m,h,vs,aI=>by
  simp only[uo]at h;split at h
  ·cases h
  ·rename_i a aA;split at h
   ·cases h
   ·rename_i l aJ;simp only[Option.some.injEq]at h;subst h
    simp only[b8]at aI;obtain⟨aR,us,rfl,h1,D⟩:=aI;exact⟨aR,us,rfl,bA x a aA aR h1,AT bA aJ us D⟩
def PU{G:cR}{cx:fO}{I:bG}{β:Nat→Value}{σ:ag}{w:World}(av:cz G cx I β σ w):∀(n:Nat) (a b:W),uq n σ a=some b→∀v,aC I β a v→bm (iK w) b v
 |0,a,b,h,_,_=>by cases h
 |n+1,a,b,h,v,aI=>by
  have hle:cV I (iK w):=av.LH;have bu:=PU av n;cases a with
  |own d=>
   simp only[uq]at h;split at h
   ·rename_i T sz xs k cT af;cases h;simp only[aC]at aI;obtain⟨rfl,Z⟩:=aI;have cG:=av.c4 d _ af;simp only[bb]at cG;simp only[bm];rcases cG with q|⟨q,rfl,_⟩|⟨b,aV,arr,ak,ax,aO,aL,bg,bI,b7,_⟩
    ·rw[q]at Z;simp[i1]at Z
    ·exact⟨none,0,q,by simp,by simp[maxLen],by simp,.inl rfl⟩
    ·refine⟨_,aV,ak,ax,aO,by simp,.inr ⟨b,0,rfl,?_⟩⟩;refine AK xs 0 _ (ni hle _ _ bI) λj v aa=>?_;rw[Nat.zero_add];rw[getElem?_take]at aa;split at aa
     ·simp only[iK,World.cell?,aL];simpa using aa
     ·cases aa
   ·rename_i T sz xs af;cases h;exact kK hle _ _ (by simpa only[aC]using av.win af aI)
   ·cases h
  |ptr d p=>
   simp only[uq]at h;split at h
   ·rename_i T cs af;split at h
    ·cases h
    ·rename_i l aJ;cases h;simp only[aC]at aI;obtain⟨eU,U,rfl⟩:=aI;obtain⟨arr,ak,ax,aO,_⟩:=cz.box av af U;simp only[bm];refine⟨eU,p,rfl,?_⟩;have:=AT (J:=iK w) bu aJ _ (CZ p _ _ aO);refine Kk l p _ this λj v aa=>?_;simp only[iK,World.cell?,ax];simpa using aa
   ·cases h
  |c6=>cases h;simp only[aC,bm]at aI ⊢;exact⟨none,0,aI,by simp,by simp[maxLen],by simp,by simp⟩
  |bf f xs=>
   have h1:bm (iK w) (.bf f xs) v:=kK hle _ _ (by simpa only[aC]using aI);cases f with
   |false=>cases h;exact h1
   |true=>
    cases h;simp only[bm]at h1 ⊢;obtain⟨a,c,D,aq,aZ,_,bV⟩:=h1;exact⟨a,c,D,aq,aZ,by simp,bV⟩
  |agg cs=>
   simp only[uq]at h;split at h
   ·cases h
   ·rename_i l aJ;cases h
    simp only[aC]at aI;obtain⟨vs,rfl,aI⟩:=aI;simp only[bm];exact⟨vs,rfl,AT bu aJ _ aI⟩
  |c5 cs=>
   simp only[uq]at h;split at h
   ·cases h
   ·rename_i l aJ;cases h
    simp only[aC]at aI;obtain⟨vs,rfl,aI⟩:=aI;simp only[bm];exact⟨vs,rfl,AT bu aJ _ aI⟩
  |fn f cs=>
   simp only[uq]at h;split at h
   ·cases h
   ·rename_i l aJ;cases h
    simp only[aC]at aI;obtain⟨vs,rfl,aI⟩:=aI;simp only[bm];exact⟨vs,rfl,AT bu aJ _ aI⟩
  |dm d=>
   have own:∀{r:Nat} {es:ia} {clock:Nat} {bL:List (W×W)},β d=.map (some r)→w.heap[r]?=some (.map es clock)→fm I bL es.toList→km es clock→aC I β (.dm d) v→bm (iK w) (.c7 bL) v:=by
    intro r es clock bL h1 D aq aZ bV;simp only[aC]at bV;obtain⟨rfl,_⟩:=bV;simp only[bm];exact⟨r,es,clock,h1,by simp only[iK,D],n1 hle _ _ aq,aZ⟩
   have CE:nV (β d)=true:=by simp only[aC]at aI;obtain⟨rfl,q⟩:=aI;exact q
   simp only[uq]at h;split at h
   ·rename_i K E bL af;cases h;have cG:=av.c4 d _ af;simp only[bb]at cG;rcases cG with q|⟨r,es,clock,ak,ax,aO,_,_,bI⟩
    ·rw[q]at CE;simp[nV]at CE
    ·exact own ak ax aO bI aI
   ·rename_i K E bL af;cases h;have cG:=av.c4 d _ af;simp only[bb]at cG;rcases cG with q|⟨r,es,clock,ak,ax,aO,_,bI⟩
    ·rw[q]at CE;simp[nV]at CE
    ·obtain⟨hA,lY,aZ,bV⟩:=av.iB r _ ax;obtain⟨rfl,rfl⟩:=CY bV;exact own ak aZ aO bI aI
   ·rename_i es clock K E bL af;cases h;have cG:=av.c4 d _ af;simp only[bb]at cG;rcases cG with q|⟨r,ak,ax,aO,_,_,bI⟩
    ·rw[q]at CE;simp[nV]at CE
    ·exact own ak ax aO bI aI
   ·cases h
  |c7 bL=>cases h;exact kK hle _ _ (by simpa only[aC]using aI)
  |arr xs=>cases h;exact kK hle _ _ (by simpa only[aC]using aI)
  |ja k d=>cases h
  |k7=>
   cases h;simp only[aC,bm]at aI ⊢;obtain⟨a,c,aI,ah⟩:=aI;exact⟨some a,c,aI,by simp,ah,by simp,by simp⟩
  |e7 f cs=>cases h;exact kK hle _ _ (by simpa only[aC]using aI)
  |fP=>cases h;simp[bm]
  |undef=>cases h;exact kK hle _ _ (by simpa only[aC]using aI)
  |int k n=>cases h;exact kK hle _ _ (by simpa only[aC]using aI)
  |bool b=>cases h;exact kK hle _ _ (by simpa only[aC]using aI)
  |str s=>cases h;exact kK hle _ _ (by simpa only[aC]using aI)
  |gq cs=>cases h;exact kK hle _ _ (by simpa only[aC]using aI)
  |oC=>cases h;exact kK hle _ _ (by simpa only[aC]using aI)
def DO(n:Nat)(σ:ag)(a:W):Option W:=match uq n σ a with
 |some (.fn f l)=>some (.e7 f l)
 |x=>x
variable {I:bG}{β:Nat→Value}
def RH{cx:fO}{w:World}(av:cz G cx I β σ w)(n:Nat)(a b:W)(h:DO n σ a=some b)(v:Value)(aI:aC I β a v):bm (iK w) b v:=by
 unfold DO at h;split at h
 ·rename_i f l he;cases h;have:=PU av n a _ he v aI;simpa only[bm]using this
 ·exact PU av n a _ h v aI
def ds.Mx:∀{l:List W} {vs:dQ},ds I l vs→b8 I β l vs:=λh=>ds.rep β _ _ h
variable {args:Array Operand}{dX ps:List W}{env:au}{f:FuncId}{hS:Operand}{k:Array TypeId}{r:W}{σs:ag}
def axu{aV:List W}(n:Nat)(h:o.op=.call ⟨.value hS,args,k⟩)(bA:env.ev hS=.fn f aV)
    (q9:∀(args:jc) (w:World),(callFunc f args).run G.P w=.ok (.enter f args) w) (ch:dR G.P f [] dX r) (aF:env.qL args.toList=some ps) (aA:uo (DO n σs) (ps++aV)=some dX) (Z:va σ σs)
    (aI:r.jK=true):Yields G o env.ev σ [] σs.ids r:=by
  intro aH cx I β w bn c3 av _ hop;have lB:=hop hS (by simp[h,Op.operands,Call.operands]);rw[bA]at lB;simp only[aC]at lB;obtain⟨vs,lB,p1⟩:=lB;rw[Gq h lB q9]
  have ob:∀d o,σs.get d=some o→aH.get d=some o:=λd o af=>by
    obtain⟨p,de,ew,e1⟩:=u2 σs d o af;rw[c3 d (by rw[←ew];exact List.mem_map.2 ⟨p,de,rfl⟩),←ew,←e1];exact Z.mem p de
  have Ak:=av.sub ob;have n5:=tM _ _ _ _ (AS env.ev bn args.toList λx u=>hop x (by simp only[h,Op.operands,Call.operands];simp;right;simpa using u)) p1;rw[av4 aF]at n5;have xz:=AT (J:=iK w) (RH Ak n) aA _ n5
  have fM:cz ⟨G.P,0,[]⟩ (pL (iK w) β [] w) (iK w) β [] w:=
    {good:=C2,iB:=CQ,kg:=cV.refl _,jX:=λ_ _ _ _=>rfl,frame:=λ_ _ _=>rfl,size:=Nat.le_refl _,tape:=rfl,os:=rfl,output:=rfl,drawn:=Nat.le_refl _,
     c4:=λd o af=>by simp[ag.get]at af,ee:=λd dO af=>by simp[ag.get]at af,keep:=λd af=>by simp at af}
  refine Calls.mono (ch _ w (iK w) β _ fM xz.Mx) ?_;rintro e w' ⟨v,he,r',σ2,bq,β',⟨sV,j5⟩,l9,fU⟩;subst sV j5;have oa:cz G cx I β aH w':=av.stay (λb U=>fU.frame b U (by simp[pL,xo,ag.ids])) fU.size fU.tape fU.os fU.output fU.drawn;exact⟨v,he,I,β,aC.jK r' v aI l9,oa,cV.refl I,λ_ _=>rfl⟩
mutual
def W.r4:W→Bool
 |.int _ _=>true
 |.bool _=>true
 |.str _=>true
 |.undef=>true
 |.own _=>true
 |.dm _=>true
 |.c5 cs=>He cs
 |.agg cs=>He cs
 |_=>false
def He:List W→Bool
 |[]=>true
 |x::r=>x.r4&&He r
end
mutual
def aC.r4{I bq:bG}{β:Nat→Value}:∀(a:W) (v:Value),a.r4=true→aC I β a v→aC bq β a v
 |.int _ _,v,_,h=>by simpa only[aC,bm]using h
 |.bool _,v,_,h=>by simpa only[aC,bm]using h
 |.str _,v,_,h=>by simpa only[aC,bm]using h
 |.undef,v,_,h=>by simpa only[aC,bm]using h
 |.own d,v,_,h=>by simpa only[aC]using h
 |.dm d,v,_,h=>by simpa only[aC]using h
 |.c5 cs,v,Z,h=>by
  simp only[aC,W.r4]at h Z ⊢;obtain⟨vs,h1,D⟩:=h;exact⟨vs,h1,b8.r4 cs _ Z D⟩
 |.agg cs,v,Z,h=>by
  simp only[aC,W.r4]at h Z ⊢;obtain⟨vs,h1,D⟩:=h;exact⟨vs,h1,b8.r4 cs _ Z D⟩
 |.fP,_,Z,_|.bf _ _,_,Z,_|.gq _,_,Z,_|.fn _ _,_,Z,_|.c6,_,Z,_|.oC,_,Z,_|.ptr _ _,_,Z,_|.e7 _ _,_,Z,_|.k7,_,Z,_|.ja _ _,_,Z,_=>by simp[W.r4]at Z
def b8.r4{I bq:bG}{β:Nat→Value}:∀(a:List W) (v:dQ),He a=true→b8 I β a v→b8 bq β a v
 |[],v,_,h=>h
 |x::r,v,Z,h=>by
  simp only[b8,He,Bool.and_eq_true]at h Z ⊢;obtain⟨aR,us,h1,D,aq⟩:=h;exact⟨aR,us,h1,aC.r4 x aR Z.1 D,b8.r4 r us Z.2 aq⟩
end
def y2.get:∀{σ:ag} {d:Nat} {o:cE},y2 σ→σ.get d=some o→Me o
 |[],_,_,_,h=>by simp[ag.get]at h
 |(x,v)::r,d,o,bA,h=>by
  obtain⟨p,de,_,e1⟩:=u2 ((x,v)::r) d o h;have:∀(σ:ag),y2 σ→∀p∈σ,Me p.2:=by
   intro σ;induction σ with
   |nil=>intro _ p aF;simp at aF
   |cons q r bu=>
    intro bA p aF;rcases mem_cons.1 aF with rfl|aF
    ·exact bA.1
    ·exact bu bA.2 p aF
  rw[←e1];exact this _ bA p de
def abH{k:IntKind}{er:IntKind}(l:List (Int×Int)):∀p∈l.map (λ(q:Int×Int)=>(W.int k q.1,W.int er q.2)),p.1.jK=true∧p.2.jK=true:=λp aF=>by
 obtain⟨x,_,rfl⟩:=List.mem_map.1 aF;exact⟨rfl,rfl⟩
def YJ:∀{a b:List W},rY a=true→rY b=true→rY (a++b)=true
 |[],_,_,h=>h
 |x::r,b,aA,U=>by
  simp only[cons_append,rY,Bool.and_eq_true]at aA ⊢;exact⟨aA.1,YJ aA.2 U⟩
def YH:∀{xs:List (List W)},(∀e∈xs,rY e=true)→rY xs.flatten=true
 |[],_=>rfl
 |x::r,h=>by
  rw[flatten_cons];exact YJ (h x (by simp)) (YH λe he=>h e (by simp[he]))
mutual
def bm.jK{I bq:bG}:∀(a:W) (v:Value),a.jK=true→bm I a v→bm bq a v
 |.int _ _,v,_,h=>by simpa only[bm]using h
 |.bool _,v,_,h=>by simpa only[bm]using h
 |.str _,v,_,h=>by simpa only[bm]using h
 |.undef,v,_,h=>by simpa only[bm]using h
 |.c5 cs,v,Z,h=>by
  simp only[bm,W.jK]at h Z ⊢;obtain⟨vs,h1,D⟩:=h;exact⟨vs,h1,ds.jK cs _ Z D⟩
 |.agg cs,v,Z,h=>by
  simp only[bm,W.jK]at h Z ⊢;obtain⟨vs,h1,D⟩:=h;exact⟨vs,h1,ds.jK cs _ Z D⟩
 |.fP,_,Z,_|.bf _ _,_,Z,_|.gq _,_,Z,_|.fn _ _,_,Z,_|.c6,_,Z,_|.oC,_,Z,_|.own _,_,Z,_|.ptr _ _,_,Z,_|.dm _,_,Z,_|.e7 _ _,_,Z,_|.k7,_,Z,_|.ja _ _,_,Z,_=>by simp[W.jK]at Z
def ds.jK{I bq:bG}:∀(a:List W) (v:dQ),rY a=true→ds I a v→ds bq a v
 |[],v,_,h=>h
 |x::r,v,Z,h=>by
  simp only[ds,rY,Bool.and_eq_true]at h Z ⊢;obtain⟨aR,us,h1,D,aq⟩:=h;exact⟨aR,us,h1,bm.jK x aR Z.1 D,ds.jK r us Z.2 aq⟩
end
def fm.jK{I bq:bG}:∀(l:List (W×W)) (es:nc),(∀p∈l,p.1.jK=true∧p.2.jK=true)→fm I l es→fm bq l es
 |[],es,_,h=>h
 |(k,v)::r,es,Z,h=>by
  simp only[fm]at h ⊢;obtain⟨e,us,h1,D,aq,aZ⟩:=h;exact⟨e,us,h1,bm.jK k _ (Z (k,v) (by simp)).1 D,bm.jK v _ (Z (k,v) (by simp)).2 aq,fm.jK r us (λp aF=>Z p (by simp[aF])) aZ⟩
def Pt:∀σ:ag,ag.minus [] σ=σ
 |[]=>rfl
 |(d,o)::r=>by simp only[ag.minus,contains_nil,cond_false,Pt r]
def axT{aV:List W}{σ2:ag}(n:Nat)(news:dI)(h:o.op=.call ⟨.value hS,args,k⟩)(bA:env.ev hS=.fn f aV)
    (q9:∀(args:jc) (w:World),(callFunc f args).run G.P w=.ok (.enter f args) w) (ch:eT G.P f [] dX (λa aH=>a=r∧aH=σ2)) (aF:env.qL args.toList=some ps) (aA:uo (DO n σs) (ps++aV)=some dX) (Z:va σ σs)
    (aX:news.all (λd=>!G.ids.contains d&&(σ.get d).isNone)=true) (iD:σ.clean news.contains=true) (aI:r.r4=true) (j5:r.refs (λd=>!news.contains d)=false) (D:σ2.clean (λd=>!news.contains d)=true) (oT:y2 σ2) :
    i2 G o env.ev σ news news (λa aH=>a=r∧aH=σ2++σ):=by
  intro cx I β w bn av hop;have lB:=hop hS (by simp[h,Op.operands,Call.operands]);rw[bA]at lB;simp only[aC]at lB;obtain⟨vs,lB,p1⟩:=lB;rw[Gq h lB q9]
  have Ak:=av.sub (σ2:=σs) λd o af=>by
    obtain⟨p,de,ew,e1⟩:=u2 σs d o af;rw[←ew,←e1];exact Z.mem p de
  have n5:=tM _ _ _ _ (AS env.ev bn args.toList λx u=>hop x (by simp only[h,Op.operands,Call.operands];simp;right;simpa using u)) p1;rw[av4 aF]at n5;have xz:=AT (J:=iK w) (RH Ak n) aA _ n5
  have fM:cz ⟨G.P,0,[]⟩ (pL (iK w) β [] w) (iK w) β [] w:=
    {good:=C2,iB:=CQ,kg:=cV.refl _,jX:=λ_ _ _ _=>rfl,frame:=λ_ _ _=>rfl,size:=Nat.le_refl _,tape:=rfl,os:=rfl,output:=rfl,drawn:=Nat.le_refl _,
     c4:=λd o af=>by simp[ag.get]at af,ee:=λd dO af=>by simp[ag.get]at af,keep:=λd af=>by simp at af}
  refine Calls.mono (ch _ w (iK w) β _ fM xz.Mx) ?_;rintro e w' ⟨v,he,r',σ3,bq,β',⟨sV,wZ⟩,l9,fU⟩;subst sV wZ;have z1:∀b,b<w.heap.size→w'.heap[b]?=w.heap[b]?:=λb U=>fU.frame b U (by simp[pL,xo])
  have oW:∀b,Place (pL (iK w) β [] w) b→w.heap.size≤b:=λb U=>by
    rcases U with U|U
    · exact U
    · simp[pL,xo]at U
  have key:cz ⟨G.P,0,[]⟩ (pL I β [] w) (λb o=>if b<w.heap.size then I b o else bq b o) β' σ3 w':=
    {good:=λb o v aa=>by
        by_cases U:b<w.heap.size
        · simp only[U,if_true]at aa
          have h1:=av.good b o v aa;rw[World.cell?_of_block (w:=w) (z1 b U)];exact h1
        · simp only[U,if_false]at aa
          exact fU.good b o v aa
     iB:=λb v aa=>by
        by_cases U:b<w.heap.size
        · simp only[U,if_true]at aa
          obtain⟨es,clock,h1,D⟩:=av.iB b v aa;exact⟨es,clock,by rw[z1 b U];exact h1,D⟩
        · simp only[U,if_false]at aa
          exact fU.iB b v aa
     kg:=λb o v aa=>by
        have bS:b<w.heap.size:=av.ae5 aa;simp only[bS,if_true];exact aa
     jX:=λb U _ o=>by
        have U:b<w.heap.size:=U;simp only[U,if_true];rfl
     frame:=λb U _=>z1 b U
     size:=fU.size,tape:=fU.tape,os:=fU.os,output:=fU.output,drawn:=fU.drawn
     c4:=λd o af=>by
        have an:=fU.c4 d o af;have q1:=oT.get af;cases o with
        |slice T sz xs jw cT=>
          simp only[bb]at an ⊢;rcases an with q|q|⟨b,aV,arr,ak,ax,aO,aL,bg,bI,b7,cD,dz,dT,fG⟩
          · exact .inl q
          · exact .inr (.inl q)
          · have U:=oW b fG
            have wY:¬b<w.heap.size:=by omega
            refine .inr (.inr ⟨b,aV,arr,ak,ax,aO,aL,bg,ds.jK _ _ (YH q1) bI,b7,cD,?_,?_,.inl U⟩)
            · simp only[wY,if_false];exact dz
            · simp only[wY,if_false];exact dT
        |cells _ _=>exact absurd q1 id
        |map K E bL=>
          simp only[bb]at an ⊢;rcases an with q|⟨r,es,clock,ak,ax,aO,aL,bg,bI⟩
          · exact .inl q
          · have U:=oW r bg
            have wY:¬r<w.heap.size:=by omega
            refine .inr ⟨r,es,clock,ak,ax,fm.jK _ _ q1 aO,λo=>?_,.inl U,bI⟩;simp only[wY,if_false];exact aL o
        |win _ _ _=>exact absurd q1 id
        |k3 _ _ _=>exact absurd q1 id
        |hM _ _ _ _ _=>exact absurd q1 id
        |iter _ _ _ _=>exact absurd q1 id
        |hdr _ _=>exact absurd q1 id
        |cL _=>exact absurd q1 id
        |e9 _ _ _ _=>exact absurd q1 id
        |iF _ _ _ _ _ _=>exact absurd q1 id
        |hU _ _ _=>exact absurd q1 id
        |vec _ _=>exact absurd q1 id
        |kE _ _ _ _=>exact absurd q1 id
        |fQ _ _ _ _ _ _=>exact absurd q1 id
     ee:=fU.ee,keep:=λd af=>by simp at af}
  have Cs:∀d∈news,d∉G.ids∧σ.get d=none:=λd af=>by
    have:=List.all_eq_true.1 aX d af;simpa using this
  have hm:σ.minus (ag.ids [])=σ:=Pt σ;obtain⟨dc,dg,gx⟩:=av.after (dG:=[]) (by simp) key news Cs (by rw[hm];exact iD) (by simpa [ag.ids]using D);rw[hm]at dc;refine⟨v,he,r',_,_,_,⟨rfl,rfl⟩,gx r' v (by simpa [ag.ids]using j5) (aC.r4 r' v aI l9),dc,dg,λd af=>by simp[af],λd af=>?_⟩;rw[av3];cases aZ:σ3.get d with
  |some hT=>
    have:=(avI D d hT aZ).1;have:news.contains d=true:=by rw[←Bool.not_eq_false'];exact this
    exact absurd (List.contains_iff_mem.1 this) af
  |none=>rfl
def HY(op:BinOp)(k:IntKind)(m n:Int):Option W:=match op with
 |.add=>some (.int k (k.wrap (m+n)))
 |.sub=>some (.int k (k.wrap (m-n)))
 |.mul=>some (.int k (k.wrap (m*n)))
 |.lss=>some (.bool (decide (m<n)))
 |.leq=>some (.bool (decide (m≤n)))
 |.gtr=>some (.bool (decide (n<m)))
 |.geq=>some (.bool (decide (n≤m)))
 |.eql=>some (.bool (decide (m=n)))
 |.neq=>some (.bool (!decide (m=n)))
 |.and=>some (.int k (mQ .and k m n))
 |.or=>some (.int k (mQ .or k m n))
 |.xor=>some (.int k (mQ .xor k m n))
 |.andNot=>some (.int k (mQ .andNot k m n))
 |_=>none
def UW(bY:hI)(env:au)(σ:ag)(c:Call):Option (dI×W):=match c.callee with
 |.builtin b=>(match b with
  |.len=>(match c.args.toList with
   |[x]=>(match c.argTypes.toList with
    |[T]=>(match bY.get T with
     |some ⟨_,_,_,.slice _ _ _ _⟩=>(match env.dx x with
      |some (.bf _ xs)=>some ([],.int .i64 (xs.length:Int))
      |some .c6=>some ([],.int .i64 0)
      |some (.own d)=>(match σ.get d with|some (.slice _ _ xs _ _)=>some ([d],.int .i64 (xs.length:Int))|some (.win _ _ xs)=>some ([d],.int .i64 (xs.length:Int))|_=>none)
      |_=>none)
     |some ⟨_,_,_,.str⟩=>(match env.dx x with|some (.str s)=>some ([],.int .i64 (s.size:Int))|_=>none)
     |_=>none)
    |_=>none)
   |_=>none)
  |.min=>(match c.args.toList with
   |[x,y]=>(match env.dx x with
    |some (.int k m)=>(match env.dx y with|some (.int _ n)=>some ([],.int k (if n<m then n else m))|_=>none)
    |_=>none)
   |_=>none)
  |.max=>(match c.args.toList with
   |[x,y]=>(match env.dx x with
    |some (.int k m)=>(match env.dx y with|some (.int _ n)=>some ([],.int k (if n>m then n else m))|_=>none)
    |_=>none)
   |_=>none)
  |_=>none)
 |_=>none
def MS(bY:hI)(env:au)(σ:ag):Op→Option (dI×W)
 |.move x|.assign x=>match env.dx x with|none=>none|some a=>some ([],a)
 |.pick c x y=>match env.dx c with
  |some (.bool true)=>(match env.dx x with|none=>none|some a=>some ([],a))
  |some (.bool false)=>(match env.dx y with|none=>none|some a=>some ([],a))
  |_=>none
 |.fieldAddr T x f=>match bY.get T with
  |some ⟨_,_,_,.struct _ gm _⟩=>(match gm[f]? with
   |none=>none
   |some (off,_)=>match env.dx x with
    |some (.ptr d p)=>some ([],.ptr d (p+off))
    |some (.gq cs)=>(match spine (cs.drop off)with|none=>none|some l=>some ([],.gq l))
    |_=>none)
  |_=>none
 |.field T x f=>match bY.get T with
  |some ⟨_,_,_,.struct _ gm rD⟩=>(match gm[f]? with
   |none=>none
   |some (off,n)=>match rD[f]? with
    |none=>none
    |some dW=>match env.dx x with
     |some (.agg cs)=>bif Nat.ble (off+n) cs.length then(match qg dW n (cs.drop off)with|none=>none|some a=>some ([],a))else none
     |_=>none)
  |_=>none
 |.load T x=>match bY.get T with
  |none=>none
  |some i=>match env.dx x with
   |some (.ptr d p)=>(match σ.get d with
    |some (.cells _ cs)=>bif (i.dW||Nat.blt 0 i.sz)&&Nat.ble (p+i.sz) cs.length then(match qg i.dW i.sz (cs.drop p)with|none=>none|some a=>some ([d],a))else none
    |_=>none)
   |some (.gq cs)=>bif (i.dW||Nat.blt 0 i.sz)&&Nat.ble i.sz cs.length then(match qg i.dW i.sz cs with|none=>none|some a=>some ([],a))else none
   |_=>none
 |.binOp op T x y _=>match env.dx x with
  |some (.int k m)=>(match env.dx y with
   |some (.int er n)=>bif decide (k=er)then(match HY op k m n with|none=>none|some a=>some ([],a))else none
   |_=>none)
  |some (.bool a)=>(match bY.get T with
   |some ⟨_,_,_,.bool⟩=>(match env.dx y with
    |some (.bool b)=>(match op with
     |.eql=>some ([],.bool (a==b))
     |.neq=>some ([],.bool (!(a==b)))
     |_=>none)
    |_=>none)
   |_=>none)
  |_=>none
 |.unOp op _ x=>match op with
  |.not=>(match env.dx x with|some (.bool b)=>some ([],.bool (!b))|_=>none)
  |.neg=>(match env.dx x with|some (.int k n)=>some ([],.int k (k.wrap (0-n)))|_=>none)
  |_=>none
 |.convert T be x=>match bY.get T with
  |some ⟨_,_,_,.int _⟩=>(match bY.get be with
   |some ⟨_,_,_,.int er⟩=>(match env.dx x with|some (.int _ n)=>some ([],.int er (er.wrap n))|_=>none)
   |_=>none)
  |_=>none
 |.extract x j=>match env.dx x with
  |some (.c5 vs)=>(match vs[j]? with|none=>none|some a=>some ([],a))
  |_=>none
 |.nilCheck x=>match env.dx x with
  |some (.ptr d p)=>some ([],.ptr d p)
  |some (.gq cs)=>some ([],.gq cs)
  |_=>none
 |.build T parts=>match bY.get T with
  |some ⟨_,_,_,.struct zs gm _⟩=>(match env.u9 parts.toList with
   |none=>none
   |some ps=>match A8 gm (s5 zs) ps with|none=>none|some cs=>some ([],.agg cs))
  |_=>none
 |.buildSlice T len parts=>match bY.get T with
  |some ⟨_,_,_,.slice _ sz _ _⟩=>bif Nat.beq parts.size len&&(Nat.ble (len*sz) 65536&&Nat.ble len 65536)then(match env.u9 parts.toList with
   |none=>none
   |some ps=>match yJ sz 0 (En ps)with
    |none=>none
    |some xs=>bif nm xs.flatten then some ([],.bf true xs)else none)else none
  |_=>none
 |.makeFunc fn first aV=>match fn with
  |.func f=>(match first.toList with
   |[]=>(match env.qL aV.toList with|none=>none|some l=>some ([],.fn f l))
   |_=>none)
  |_=>none
 |.call c=>UW bY env σ c
 |_=>none
end
section
section
variable {P:Program}{N:Nat}{ids:dI}{bY:hI}{o:Oper}{env:au}{σ:ag}
def axx{G:cR}{ev:Operand→W}{T:TypeId}{x:Operand}{k:IntKind}{n:Int}(h:o.op=.unOp .neg T x)(u:ev x=.int k n):Yields G o ev σ [] [] (.int k (k.wrap (0-n))):=
 .pure λ_ _ I β w bn _ _ hop=>by
  have h1:=hop x (by simp[h,Op.operands]);rw[u]at h1;have h1:=kY h1
  exact⟨.int k (k.wrap (0-n)),by simp only[execOp,h,h1,Op.unary,Op.intArith];rfl,by simp[aC,bm]⟩
def axr{G:cR}{ev:Operand→W}{T be:TypeId}{x y:Operand}{k:IntKind}{m n:Int}(h:o.op=.binOp .quo T x y be)(u:ev x=.int k m)(ai:ev y=.int k n)(aX:n≠0):Yields G o ev σ [] [] (.int k (k.wrap (m.tdiv n))):=
 b6.int h u ai (by decide) (λw=>by simp[Op.intDiv,aX];rfl) (λ_ _=>by simp only[aC,bm])
def A1(xs:List (List W)):xs.map id=xs:=List.map_id xs
def ax8{G:cR}{o:Oper}{ev:Operand→W}{σ:ag}{T E sz len d:Nat}{parts:Array (Nat×Operand)}{zs:dQ}{xs:List (List W)}(h:o.op=.buildSlice T len parts)(aT:nA G.P T E sz zs)(aJ:parts.size=len)(Z:len*sz≤65536∧len≤65536)
  (bA:vS sz 0 (parts.toList.map λp=>(p.1,ev p.2))=some xs) (ah:nm xs.flatten=true) (hi:G.ids.contains d=false):Yields G o ev ((d,.slice E sz xs 0 false)::σ) [d] [d] (.own d):=by
 intro aH cx I β w bn c3 av hm hop;have h1:∀p∈parts.toList,aC I β (ev p.2) (bn p.2):=λp aF=>hop p.2 (by simp only[h,Op.operands];simpa using ⟨p.1,by simpa using aF⟩);obtain⟨z,ji,hN⟩:=aT.zero w
 let L:jc:=(Array.range (len*sz)).map ((if len*sz=0 then #[]else z.cells)[·%(if len*sz=0 then #[]else z.cells:jc).size]!)
 have uK:L.size=len*sz:=by simp[L]
 obtain⟨r,us,hw,ha,mJ,ql,xC,v8⟩:=F7 (I:=I) (β:=β) sz (parts.toList.map λp=>(p.1,ev p.2)) (parts.toList.map λp=>(p.1,bn p.2)) 0 L xs
  ⟨by simp,λj p q aY bP=>by
   simp only[List.getElem?_map]at aY bP;cases u:parts.toList[j]? with
   |none=>rw[u]at aY;cases aY
   |some y=>
    rw[u]at aY bP;simp only[Option.map_some,Option.some.injEq]at aY bP;subst aY bP;exact⟨rfl,h1 y (List.mem_of_getElem? u)⟩⟩ bA (by simp[uK,aJ])
 have yy:r.toList=us:=by
  rw[mJ];have l0:L.toList.drop ((0+(parts.toList.map λp=>(p.1,ev p.2)).length)*sz)=[]:=drop_of_length_le (by simp[uK,aJ]);rw[l0];simp
 have p5:xs.length=len:=by rw[v8];simp[aJ]
 have eV:(execOp bn o).run G.P w=.ok (.value (.slice (some ⟨w.heap.size,0,none⟩) len len)) (w.alloc (.cells r E)):=by
  have Ac:¬(len*sz>2 ^ 24):=by have:(2:Nat) ^ 24=16777216:=by decide
                               omega
  have oB:Instr.fill (λi=>some (i*sz,sz)) L (parts.map λ(i,x)=>(i,bn x)).toList=some r:=by simpa using hw
  simp only[execOp,h,Instr.buildSlice,Sem.run_bind,run_underlying aT.gT,aT.size,Result.andThen_ok,Ac,if_false];by_cases bJ:len*sz=0
  ·have sG:L=(Array.range (len*sz)).map ((#[]:jc)[·%(#[]:jc).size]!):=by simp only[L,bJ,if_true]
   rw[sG]at oB;simp only[bJ,if_true,Sem.run_bind,Sem.run_pure,Result.andThen_ok]at oB ⊢;simp only[oB];simp[newRow]
  ·have sG:L=(Array.range (len*sz)).map (z.cells[·%z.cells.size]!):=by simp only[L,bJ,if_false]
   rw[sG]at oB;simp only[bJ,if_false,Sem.run_bind,ji,Sem.run_pure,Result.andThen_ok];simp only[oB];simp[newRow]
 rw[eV];have mB:=hm d (by simp);have XE:=xC;have oT:=Ay xs XE;have IM:us.length=xs.length*sz:=by rw[tL _ _ ql,oT]
 refine⟨I,hy β d (.slice (some ⟨w.heap.size,0,none⟩) len len),by simp only[aC];exact⟨(gX _ _ _).symm,rfl⟩,?_,cV.refl I,λx u=>iu β _ (λe=>u (by simp[e]))⟩;refine av.real (by simpa using hi) mB rfl λbc cG=>?_;rw[c3 d (by simp),avA,if_pos rfl]at cG;injection cG with cG
 subst cG;simp only[bb,gX];refine .inr (.inr ⟨w.heap.size,len,r,by rw[p5],by omega,by simp only[maxLen];omega,heap_alloc_new w _,?_,?_,XE,by omega,(λh=>by cases h),λo _=>av.jG (Nat.le_refl _) o,.inl av.size⟩)
 ·rw[←Array.length_toList,yy,IM,p5]
 ·rw[yy,take_of_length_le (by rw[IM];exact Nat.le_refl _)];exact b8.closed _ _ ah ql
def axh{G:cR}{ev:Operand→W}{hS:Operand}{args:Array Operand}{k:Array TypeId}{f:FuncId}{aV dX:List W}{σs:ag}{r:W}(h:o.op=.call ⟨.value hS,args,k⟩)(bA:ev hS=.e7 f aV)
  (q9:∀(args:jc) (w:World),(callFunc f args).run G.P w=.ok (.enter f args) w) (Z:∀p∈σs,σ.get p.1=some p.2) (aA:mP σs (args.toList.map ev) dX)
  (ch:dR G.P f [] (dX++aV) r) (aI:r.closed=true):Yields G o ev σ [] σs.ids r:=by
 intro aH cx I β w bn c3 av _ hop;have lB:=hop hS (by simp[h,Op.operands,Call.operands]);rw[bA]at lB;simp only[aC,bm]at lB;obtain⟨vs,lB,p1⟩:=lB;rw[Gq h lB q9]
 have ob:∀d o,σs.get d=some o→aH.get d=some o:=λd o af=>by
  obtain⟨p,de,ew,e1⟩:=u2 σs d o af;rw[c3 d (by rw[←ew];exact List.mem_map.2 ⟨p,de,rfl⟩),←ew,←e1];exact Z p de
 have Ak:=av.sub ob;have n5:=AS ev bn args.toList λx u=>hop x (by simp only[h,Op.operands,Call.operands];simp;right;simpa using u);have xz:=tM _ _ _ _ (aA.rep Ak _ n5) (ds.rep β _ _ p1);have fM:=av.Bj (P:=G.P) (dG:=[]) (by simp);refine Calls.mono (ch _ w I β _ fM xz) ?_;rintro e w' ⟨v,he,r',σ2,bq,β',⟨sV,j5⟩,l9,fU⟩;subst sV j5;obtain⟨h1,D,aq⟩:=av.after (dG:=[]) (by simp) fU [] (by simp) (awe _) rfl;refine⟨v,he,bq,β,?_,?_,D,λ_ _=>rfl⟩
 ·exact bm.rep β _ _ (aC.closed r' v aI l9)
 ·refine({h1 with}:cz G cx bq β ([]++aH.minus (ag.ids [])) w').sub λd o af=>?_;rw[av3,avK];simpa [ag.get,ag.ids]using af
def axv{G:cR}{ev:Operand→W}{x y:Operand}{k er:IntKind}{m n:Int}{ts:Array TypeId}(h:o.op=.call ⟨.builtin .min,#[x,y],ts⟩)(u:ev x=.int k m)(ai:ev y=.int er n):Yields G o ev σ [] [] (.int k (if n<m then n else m)):=
 .pure λ_ _ I β w bn _ _ zc=>by
  have h1:=zc x (by simp[h,Op.operands,Call.operands]);rw[u]at h1;have h1:=kY h1
  have D:=zc y (by simp[h,Op.operands,Call.operands]);rw[ai]at D;have D:=kY D
  exact⟨.int k (if n<m then n else m),by simp[execOp,h,resolve,invoke,builtin,Builtin.min_,Builtin.min2,h1,D],by simp[aC,bm]⟩
def axn{G:cR}{ev:Operand→W}{x y:Operand}{k er:IntKind}{m n:Int}{ts:Array TypeId}(h:o.op=.call ⟨.builtin .max,#[x,y],ts⟩)(u:ev x=.int k m)(ai:ev y=.int er n):Yields G o ev σ [] [] (.int k (if n>m then n else m)):=
 .pure λ_ _ I β w bn _ _ zc=>by
  have h1:=zc x (by simp[h,Op.operands,Call.operands]);rw[u]at h1;have h1:=kY h1
  have D:=zc y (by simp[h,Op.operands,Call.operands]);rw[ai]at D;have D:=kY D
  exact⟨.int k (if n>m then n else m),by simp[execOp,h,resolve,invoke,builtin,Builtin.max_,Builtin.max2,h1,D],by simp[aC,bm]⟩
def aeK{op:BinOp}{T be:TypeId}{x y:Operand}{k:IntKind}{m n:Int}{a:W}(h:o.op=.binOp op T x y be)(u:env.ev x=.int k m)(ai:env.ev y=.int k n)(U:HY op k m n=some a):Yields ⟨P,N,ids⟩ o env.ev σ [] [] a:=by
 cases op<;>simp only[HY,Option.some.injEq]at U<;>first|cases U|skip
 all_goals (try subst U)
 ·exact ax9 h u ai
 ·exact axq h u ai
 ·exact axw h u ai
 ·exact b6.and h u ai
 ·exact b6.or h u ai
 ·exact b6.xor h u ai
 ·exact b6.andNot h u ai
 ·exact b6.eql h u ai
 ·exact b6.neq h u ai
 ·exact b6.lss h u ai
 ·exact b6.leq h u ai
 ·exact b6.gtr h u ai
 ·exact b6.geq h u ai
def agb(aU:kJ P bY){R:dI}{b9:W}(h:MS bY env σ o.op=some (R,b9)):Yields ⟨P,N,ids⟩ o env.ev σ [] R b9:=by
 cases an:o.op<;>rw[an]at h<;>simp only[MS]at h
 case move x=>
  cases u:env.dx x with
  |none=>rw[u]at h;cases h
  |some a=>rw[u]at h;cases h;rw[←avz u];exact b6.move an
 case assign x=>
  cases u:env.dx x with
  |none=>rw[u]at h;cases h
  |some a=>rw[u]at h;cases h;rw[←avz u];exact b6.assign an
 case pick c x y=>
  split at h
  ·rename_i ah;cases u:env.dx x with
   |none=>rw[u]at h;cases h
   |some a=>rw[u]at h;cases h;rw[←avz u];exact axd an (avz ah) rfl
  ·rename_i ah;cases u:env.dx y with
   |none=>rw[u]at h;cases h
   |some a=>rw[u]at h;cases h;rw[←avz u];exact axe an (avz ah) rfl
  ·cases h
 case fieldAddr T x f=>
  split at h
  ·rename_i sz dW arK zs gm rD aT;split at h
   ·cases h
   ·rename_i off n bA;have hk:=(ki.get aU.tys aT).kd;simp only[nR]at hk;split at h
    ·rename_i d p u;cases h;exact aw5 an (avz u) (hk.2.1 _ _ _ bA)
    ·rename_i cs u;cases Z:spine (cs.drop off)with
     |none=>rw[Z]at h;cases h
     |some l=>rw[Z]at h;cases h;rw[←vR Z];exact aw4 an (avz u) (hk.2.1 _ _ _ bA)
    ·cases h
  ·cases h
 case field T x f=>
  split at h
  ·rename_i sz dW arK zs gm rD aT;split at h
   ·cases h
   ·rename_i off n bA;split at h
    ·cases h
    ·rename_i aav amf;have hk:=(ki.get aU.tys aT).kd;simp only[nR]at hk;split at h
     ·rename_i cs u;cases U:Nat.ble (off+n) cs.length with
      |false=>rw[U]at h;cases h
      |true=>
       rw[U]at h;simp only[cond_true]at h;cases Z:qg aav n (cs.drop off)with
       |none=>rw[Z]at h;cases h
       |some a=>rw[Z]at h;cases h;exact b4.field an (avz u) (hk.2.2 _ _ _ _ bA amf) U Z
     ·cases h
  ·cases h
 case load T x=>
  split at h
  ·cases h
  ·rename_i i aT;have hk:=(ki.get aU.tys aT).ty;split at h
   ·rename_i d p u;split at h
    ·rename_i be cs af;cases U:((i.dW||Nat.blt 0 i.sz)&&Nat.ble (p+i.sz) cs.length)with
     |false=>rw[U]at h;cases h
     |true=>
      rw[U]at h;simp only[cond_true]at h;simp only[Bool.and_eq_true]at U;cases Z:qg i.dW i.sz (cs.drop p)with
      |none=>rw[Z]at h;cases h
      |some a=>rw[Z]at h;cases h;exact ax2 an (avz u) hk af U.1 U.2 Z
    ·cases h
   ·rename_i cs u;cases U:((i.dW||Nat.blt 0 i.sz)&&Nat.ble i.sz cs.length)with
    |false=>rw[U]at h;cases h
    |true=>
     rw[U]at h;simp only[cond_true]at h;simp only[Bool.and_eq_true]at U;cases Z:qg i.dW i.sz cs with
     |none=>rw[Z]at h;cases h
     |some a=>rw[Z]at h;cases h;exact ax3 an (avz u) hk U.1 U.2 Z
   ·cases h
 case binOp op T x y be=>
  split at h
  ·rename_i k m u;split at h
   ·rename_i er n ai;cases oU:decide (k=er)with
    |false=>rw[oU]at h;cases h
    |true=>
     rw[oU]at h;simp only[cond_true]at h;have:=of_decide_eq_true oU;subst this;cases U:HY op k m n with
     |none=>rw[U]at h;cases h
     |some a=>rw[U]at h;cases h;exact aeK an (avz u) (avz ai) U
   ·cases h
  ·rename_i a u;split at h
   ·rename_i aT;have hk:=(ki.get aU.tys aT).kd;simp only[nR]at hk;split at h
    ·rename_i b ai;split at h
     ·cases h;exact axj an (avz u) (avz ai) hk
     ·cases h;exact axk an (avz u) (avz ai) hk
     ·cases h
    ·cases h
   ·cases h
  ·cases h
 case unOp op T x=>
  split at h
  ·split at h
   ·rename_i b u;cases h;exact b6.not an (avz u)
   ·cases h
  ·split at h
   ·rename_i k n u;cases h;exact axx an (avz u)
   ·cases h
  ·cases h
 case convert T be x=>
  split at h
  ·rename_i aT;split at h
   ·rename_i er Nk;split at h
    ·rename_i k n u;cases h
     have h1:=(ki.get aU.tys aT).kd;have D:=(ki.get aU.tys Nk).kd;simp only[nR]at h1 D;exact b6.convert an (avz u) ⟨_,h1⟩ D
    ·cases h
   ·cases h
  ·cases h
 case extract x j=>
  split at h
  ·rename_i vs u;cases aY:vs[j]? with
   |none=>rw[aY]at h;cases h
   |some a=>rw[aY]at h;cases h;exact b6.extract an (avz u) aY
  ·cases h
 case nilCheck x=>
  split at h
  ·rename_i d p u;cases h;exact awW an (avz u)
  ·rename_i cs u;cases h;exact awU an (avz u)
  ·cases h
 case build T parts=>
  split at h
  ·rename_i aT;have hk:=(ki.get aU.tys aT).kd;simp only[nR]at hk;split at h
   ·cases h
   ·rename_i ps aF;split at h
    ·cases h
    ·rename_i cs bA;cases h;exact b4.build an hk.1 aF bA
  ·cases h
 case buildSlice T len parts=>
  split at h
  ·rename_i aT;have hk:=(ki.get aU.tys aT).kd;simp only[nR]at hk;generalize U:(Nat.beq parts.size len&&_)=eU at h;cases eU with
   |false=>cases h
   |true=>
    simp only[cond_true]at h;rw[Bool.and_eq_true]at U;split at h
    ·cases h
    ·rename_i ps aF;split at h
     ·cases h
     ·rename_i xs bA;cases ah:nm xs.flatten with
      |false=>rw[ah]at h;cases h
      |true=>rw[ah]at h;cases h;exact(b6.buildSlice an hk.2.2 (by simpa using U.1) (by simpa using U.2) (by rw[←PT,awf aF];exact JK _ bA) ah).off
  ·cases h
 case makeFunc fn first aV=>
  split at h
  ·rename_i f;split at h
   ·rename_i bA;split at h
    ·cases h
    ·rename_i l aJ;cases h
     have:first=#[]:=by simpa using bA
     subst this;exact b4.makeFunc an aJ
   ·cases h
  ·cases h
 case call c=>
  obtain⟨cl,args,tys⟩:=c;simp only[UW]at h;split at h
  ·rename_i b;split at h
   ·split at h
    ·rename_i x mV;have:args=#[x]:=Array.toList_inj.1 (by simpa using mV);subst this;split at h
     ·rename_i T zW;have:tys=#[T]:=Array.toList_inj.1 (by simpa using zW);subst this;split at h
      ·rename_i aT;have hk:=(ki.get aU.tys aT).kd;simp only[nR]at hk;split at h
       ·rename_i f xs u;cases h;exact awM (rs:=xs) (enc:=id) an rfl (by rw[A1];exact avz u) hk.1.gT
       ·rename_i u;cases h;exact axl an rfl (avz u) hk.1.gT
       ·rename_i d u;split at h
        ·rename_i af;cases h;exact ax7 (enc:=id) an rfl (avz u) (by rw[A1];exact af) hk.1.gT
        ·rename_i xs af;cases h;exact Yields.win af (awM (rs:=xs) (enc:=id) an rfl (by rw[A1];exact Ro (avz u)) hk.1.gT)
        ·cases h
       ·cases h
      ·rename_i aT;have hk:=(ki.get aU.tys aT).kd;simp only[nR]at hk;split at h
       ·rename_i s u;cases h;exact axm an rfl (avz u) hk
       ·cases h
      ·cases h
     ·cases h
    ·cases h
   ·split at h
    ·rename_i m7 hH mV;have:args=#[m7,hH]:=Array.toList_inj.1 (by simpa using mV);subst this;split at h
     ·rename_i k m u;split at h
      ·rename_i er n ai;cases h;exact axv an (avz u) (avz ai)
      ·cases h
     ·cases h
    ·cases h
   ·split at h
    ·rename_i m7 hH mV;have:args=#[m7,hH]:=Array.toList_inj.1 (by simpa using mV);subst this;split at h
     ·rename_i k m u;split at h
      ·rename_i er n ai;cases h;exact axn an (avz u) (avz ai)
      ·cases h
     ·cases h
    ·cases h
   ·cases h
  ·cases h
 all_goals cases h
end
end
section
def xE(env:au)(c:Call):Option (FuncId×List W):=match c.callee with
 |.value hS=>(match env.dx hS with
  |some (.fn f aV)=>(match env.qL c.args.toList with|none=>none|some ps=>some (f,ps++aV))
  |_=>none)
 |_=>none
variable {cN:List W}{f:FuncId}
def C6{env:au}{c:Call}(h:xE env c=some (f,cN)):∃hS args k aV ps,c=⟨.value hS,args,k⟩∧env.ev hS=.fn f aV∧env.qL args.toList=some ps∧cN=ps++aV:=by
 obtain⟨cl,args,k⟩:=c;simp only[xE]at h;split at h
 ·rename_i hS;split at h
  ·rename_i rK aV bA;split at h
   ·cases h
   ·rename_i ps aF;cases h
    exact⟨hS,args,k,aV,ps,rfl,avz bA,aF,rfl⟩
  ·cases h
 ·cases h
def Mf(env:au)(c:Call):Option (FuncId×List W×List W):=match c.callee with
 |.value hS=>(match env.dx hS with
  |some (.e7 f aV)=>(match env.qL c.args.toList with|none=>none|some ps=>some (f,ps,aV))
  |_=>none)
 |_=>none
def abI{env:au}{c:Call}{wI:List W}(h:Mf env c=some (f,cN,wI)):∃hS args k,c=⟨.value hS,args,k⟩∧env.ev hS=.e7 f wI∧env.qL args.toList=some cN:=by
 obtain⟨cl,args,k⟩:=c;simp only[Mf]at h;split at h
 ·rename_i hS;split at h
  ·rename_i rK aV bA;split at h
   ·cases h
   ·rename_i ps aF;cases h
    exact⟨hS,args,k,rfl,avz bA,aF⟩
  ·cases h
 ·cases h
def My:W→Option W
 |.fn f l=>bif nm l then some (.e7 f l)else none
 |a=>some a
def aeL{σ:ag}{a b c:W}(h:jJ σ a b)(U:My b=some c):jJ σ a c:=by
 cases b<;>simp only[My,Option.some.injEq]at U<;>first|(subst U;exact h)|skip
 rename_i f l;cases ah:nm l with
 |false=>rw[ah]at U;cases U
 |true=>rw[ah]at U;cases U;exact .e7 h ah
def DP(σ:ag):Nat→List W→Option (List W)
 |_,[]=>some []
 |m,x::r=>match(bif Nat.beq (m%2) 1 then some x else match kj [] σ x with|none=>none|some a=>My a)with
  |none=>none
  |some a=>match DP σ (m / 2) r with
   |none=>none
   |some l=>some (a::l)
def PV{σ:ag}:∀{m:Nat} {a b:List W},DP σ m a=some b→mP σ a b
 |m,[],b,h=>by simp only[DP,Option.some.injEq]at h;subst h;exact .nil
 |m,x::r,b,h=>by
  simp only[DP]at h;split at h
  ·cases h
  ·rename_i a aA;split at h
   ·cases h
   ·rename_i l aJ;simp only[Option.some.injEq]at h;subst h
    refine .cons ?_ (PV aJ);cases U:Nat.beq (m%2) 1 with
    |true=>rw[U]at aA;cases aA;exact .refl _
    |false=>
     rw[U]at aA;simp only[cond_false]at aA;split at aA
     ·cases aA
     ·rename_i a0 W5;exact aeL (u0 W5) aA
def uz(env:au)(d:Int):Option Operand→jO
 |none=>some d
 |some x=>match env.dx x with|some (.int _ n)=>some n|_=>none
variable {x:Option Operand}
def Lh{env:au}{n:Int}(h:uz env 0 x=some n):yY env.ev x∧nQ env.ev x=n:=by
 cases x with
 |none=>simp only[uz,Option.some.injEq]at h;exact⟨trivial,h⟩
 |some x=>
  simp only[uz]at h;split at h
  ·rename_i k m hm;cases h;exact⟨⟨k,_,avz hm⟩,by simp only[nQ,avz hm]⟩
  ·cases h
def Li{env:au}{l:Nat}{n:Int}(h:uz env (l:Int) x=some n):yY env.ev x∧uv env.ev l x=n:=by
 cases x with
 |none=>simp only[uz,Option.some.injEq]at h;exact⟨trivial,h⟩
 |some x=>
  simp only[uz]at h;split at h
  ·rename_i k m hm;cases h;exact⟨⟨k,_,avz hm⟩,by simp only[uv,avz hm]⟩
  ·cases h
def OW(env:au)(σ:ag)(bY:hI):Op→Option dw
 |.store T x y=>match bY.get T with
  |none=>none
  |some i=>match env.dx x with
   |some (.ptr d p)=>(match env.dx y with
    |none=>none
    |some a=>match σ.get d with
     |some (.cells be cs)=>(match uf a with
      |none=>none
      |some ca=>bif a.flat&&Nat.beq ca.length i.sz&&Nat.ble (p+i.sz) cs.length then(match spine (jq cs p ca)with
       |none=>none
       |some pr=>some (.e [d] [] .undef (σ.set d (.cells be pr))))else none)
     |_=>none)
   |_=>none
 |_=>none
def x3(bY:hI)(ids:dI)(env:au)(d:Nat):Op→Option dw
 |.alloc T=>match bY.get T with
  |some ⟨_,_,some zs,_⟩=>(match spine (s5 zs)with|none=>none|some cs=>bif !ids.contains d then some (.v d (.cells T cs) (.ptr d 0))else none)
  |_=>none
 |.box T x=>match env.dx x with
  |none=>none
  |some a=>match uf a with
   |none=>none
   |some cs=>bif a.flat&&!a.refs (Nat.beq d)&&!ids.contains d then some (.v d (.cells T cs) (.ptr d 0))else none
 |.buildSlice T len parts=>match bY.get T with
  |some ⟨_,_,_,.slice E sz _ _⟩=>bif Nat.beq parts.size len&&(Nat.ble (len*sz) 65536&&Nat.ble len 65536)&&!ids.contains d then(match env.u9 parts.toList with
   |none=>none
   |some ps=>match yJ sz 0 (En ps)with
    |none=>none
    |some xs=>bif nm xs.flatten then some (.v d (.slice E sz xs 0 false) (.own d))else none)else none
  |_=>none
 |.makeMap T none=>match bY.get T with
  |some ⟨_,_,_,.map K E _⟩=>bif !ids.contains d then some (.v d (.map K E []) (.dm d))else none
  |_=>none
 |_=>none
def I4(bY:hI)(env:au)(σ:ag)(sz:Nat)(row:List W):Op→Option (dw×di)
 |.indexAddr T x y=>match bY.get T with
  |some ⟨_,_,_,.slice _ iU _ _⟩=>(match env.dx y with
   |some (.int _ i)=>(match env.dx x with
    |some (.bf _ xs)=>(match spine row with
     |none=>none
     |some r=>bif Nat.beq iU sz then some (.y [] (.gq r),([.bf false xs,.int .i64 i],[]))else none)
    |some (.own d)=>(match σ.get d with
     |some (.slice _ rk xs _ _)=>bif Nat.beq iU sz&&Nat.beq rk sz then some (.y [d] (.ptr d (i.toNat*sz)),([.bf false xs,.int .i64 i],[]))else none
     |some (.win _ _ xs)=>(match spine row with
      |none=>none
      |some r=>bif Nat.beq iU sz then some (.y [d] (.gq r),([.bf false xs,.int .i64 i],[]))else none)
     |_=>none)
    |_=>none)
   |_=>none)
  |_=>none
 |_=>none
def Jl(bY:hI)(env:au)(σ:ag)(d sz off:Nat)(row:List W):Op→Option (dw×di)
 |.load T x=>match bY.get T with
  |none=>none
  |some i=>match env.dx x with
   |some (.ptr dO p)=>(match σ.get d with
    |some (.slice _ iU xs _ _)=>bif Nat.beq dO d&&Nat.beq iU sz&&(i.dW||Nat.blt 0 i.sz)&&Nat.ble (off+i.sz) sz then(match qg i.dW i.sz (row.drop off)with
     |none=>none
     |some a=>some (.y [d] a,([.bf false xs,.ptr dO p],[])))else none
    |_=>none)
   |_=>none
 |_=>none
def J6(bY:hI)(env:au)(σ:ag)(d sz off k:Nat)(zs:List (List W)):Op→Option (dw×di)
 |.store T x y=>match bY.get T with
  |none=>none
  |some i=>match env.dx x with
   |some (.ptr dO p)=>(match env.dx y with
    |none=>none
    |some a=>match uf (u3 a)with
     |none=>none
     |some ca=>match σ.get d with
      |some (.slice be iU xs er _)=>bif Nat.beq dO d&&Nat.beq iU sz&&Nat.beq er k&&(u3 a).flat&&nm ca&&Nat.beq ca.length i.sz&&Nat.ble (off+i.sz) sz then
        some (.e [d] [] .undef (σ.set d (.slice be iU zs er false)),([.bf false xs,.ptr dO p,.agg ca],[]))else none
      |_=>none)
   |_=>none
 |_=>none
mutual
def W.owns:W→dI
 |.own d=>[d]
 |.agg cs=>DQ cs
 |.c5 cs=>DQ cs
 |.fn _ cs=>DQ cs
 |_=>[]
def DQ:List W→dI
 |[]=>[]
 |x::r=>x.owns++DQ r
end
def JW(env:au)(σ:ag)(r:W):Op→Option (dw×di)
 |.call c=>match Mf env c with
  |none=>none
  |some (f,cN,wI)=>match σ.at (DQ cN)with
   |none=>none
   |some sn=>match DP sn 0 cN with
    |none=>none
    |some dX=>bif r.closed then some (.y sn.ids r,(.fn f wI::dX,[]))else none
 |_=>none
def JZ(env:au)(xJ:Nat)(σ σs:ag)(r:W):Op→Option (dw×di)
 |.call c=>match xE env c with
  |none=>none
  |some (f,cN)=>match σ.at (σs.ids++DQ cN)with
   |none=>none
   |some sn=>match DP sn xJ cN with
    |none=>none
    |some dX=>match sn.at σs.ids with
     |none=>none
     |some Qh=>bif r.closed&&σs.clean (λd=>!(σs.ids++[]).contains d)then some (.y sn.ids r,(.fn f []::dX,Qh))else none
 |_=>none
def Jh(env:au)(σ:ag)(dB:dI)(r:W):Op→Option (dw×di)
 |.call c=>match xE env c with
  |none=>none
  |some (f,cN)=>match σ.at dB with
   |none=>none
   |some σs=>match uo (DO 9 σs) cN with
    |none=>none
    |some dX=>bif r.jK then some (.y σs.ids r,(.fn f []::dX,[]))else none
 |_=>none
def Ii(ids:dI)(env:au)(σ dG:ag)(news:dI)(r:W)(σ2:ag):Op→Option (dw×di)
 |.call c=>match xE env c with
  |none=>none
  |some (f,cN)=>match u4 dG.ids σ cN with
   |none=>none
   |some dX=>match σ.at dG.ids with
    |none=>none
    |some VM=>bif news.all (λd=>!ids.contains d&&(σ.get d).isNone)&&(σ.minus dG.ids).clean news.contains&&!r.refs (λd=>!(dG.ids++news).contains d)&&σ2.clean (λd=>!(dG.ids++news).contains d)then
      some (.e (dG.ids++news) news r (σ2++σ.minus dG.ids),(.fn f []::dX,VM))else none
 |_=>none
def Ik(ids:dI)(env:au)(σ:ag)(dB news:dI)(r:W)(σ2:ag):Op→Option (dw×di)
 |.call c=>match xE env c with
  |none=>none
  |some (f,cN)=>match σ.at dB with
   |none=>none
   |some σs=>match uo (DO 9 σs) cN with
    |none=>none
    |some dX=>bif news.all (λd=>!ids.contains d&&(σ.get d).isNone)&&σ.clean news.contains&&r.r4&&!r.refs (λd=>!news.contains d)&&σ2.clean (λd=>!news.contains d)then some (.e news news r (σ2++σ),(.fn f []::dX,[]))else none
 |_=>none
def Ic(bY:hI)(ids:dI)(env:au)(σ:ag)(d2 sz bytes:Nat)(zs:List (List W)):Op→Option (dw×di)
 |.call c=>match c.callee with
  |.builtin b=>(match b with
   |.append=>(match c.args.toList with
    |[s,x]=>(match c.argTypes.toList with
     |[T,oq]=>(match bY.get T with
      |some ⟨_,_,_,.slice E iU WN _⟩=>bif Nat.beq T oq&&Nat.beq iU sz&&Nat.beq WN bytes&&!ids.contains d2 then(match env.dx x with
       |none=>none
       |some oI=>match kj [] σ oI with
        |some (.bf f bF)=>(match env.dx s with
         |some (.own d)=>(match σ.get d with
          |some (.slice be rk xs k _)=>bif Nat.beq be E&&Nat.beq rk sz&&(σ.minus [d]).clean [d2].contains then some (.e [d,d2] [d2] (.own d2) ((d2,.slice be rk zs k false)::σ.minus [d]),([.bf false xs,.bf false bF],[]))else none
          |some (.win be rk xs)=>bif Nat.beq be E&&Nat.beq rk sz&&(σ.minus [d]).clean [d2].contains then some (.e [d,d2] [d2] (.own d2) ((d2,.win be rk zs)::σ.minus [d]),([.bf false xs,.bf false bF],[]))else none
          |_=>none)
         |some .c6=>bif σ.clean [d2].contains then some (.e [d2] [d2] (.own d2) ((d2,.slice E iU zs 0 false)::σ),([.bf false [],.bf false bF],[]))else none
         |some (.bf true xs)=>bif σ.clean [d2].contains&&Nat.blt 0 bF.length then some (.e [d2] [d2] (.own d2) ((d2,.slice E iU zs 0 false)::σ),([.bf false xs,.bf false bF],[]))else none
         |_=>none)
        |_=>none)else none
      |_=>none)
     |_=>none)
    |_=>none)
   |_=>none)
  |_=>none
 |_=>none
def DR:W→dI
 |.own d=>[d]
 |_=>[]
def Gw(bY:hI)(env:au)(σ:ag)(sz:Nat)(zs:List (List W)):Op→Option (dw×di)
 |.slice T x lo hi none=>match bY.get T with
  |some ⟨_,_,_,.slice _ iU _ _⟩=>(match env.dx x with
   |none=>none
   |some oI=>match kj [] σ oI with
    |some (.bf f xs)=>(match uz env 0 lo with
     |none=>none
     |some a=>match uz env (xs.length:Int) hi with
      |none=>none
      |some b=>bif Nat.beq iU sz then some (.y (DR oI) (.bf false zs),([.bf false xs,.int .i64 a,.int .i64 b],[]))else none)
    |_=>none)
  |_=>none
 |_=>none
def Dk(bY:hI)(env:au)(σ:ag)(sz:Nat)(zs:List (List W)):Op→Option (dw×di)
 |.slice T x lo (some hi) (some ri)=>match bY.get T with
  |some ⟨_,_,_,.slice _ iU _ _⟩=>(match env.dx x with
   |none=>none
   |some oI=>match kj [] σ oI with
    |some (.bf f xs)=>(match uz env 0 lo with
     |none=>none
     |some a=>match uz env (xs.length:Int) (some hi)with
      |none=>none
      |some b=>match uz env (xs.length:Int) (some ri)with
       |none=>none
       |some dY=>bif Nat.beq iU sz then some (.y (DR oI) (.bf true zs),([.bf false xs,.int .i64 a,.int .i64 b,.int .i64 dY],[]))else none)
    |_=>none)
  |_=>none
 |_=>none
def DD(bY:hI)(ids:dI)(env:au)(σ:ag)(d2 sz:Nat)(zs:List (List W)):Op→Option (dw×di)
 |.slice T x lo none none=>match bY.get T with
  |some ⟨_,_,_,.slice _ iU _ _⟩=>(match env.dx x with
   |some (.own d)=>(match σ.get d with
    |some (.win be rk xs)=>(match uz env 0 lo with
     |none=>none
     |some a=>bif Nat.beq iU sz&&Nat.beq rk sz&&!ids.contains d2&&(σ.minus [d]).clean [d2].contains then some (.e [d,d2] [d2] (.own d2) ((d2,.win be rk zs)::σ.minus [d]),([.bf false xs,.int .i64 a],[]))else none)
    |_=>none)
   |_=>none)
  |_=>none
 |_=>none
def JL(env:au):Op→Option (dw×di)
 |.binOp op _ x y _=>match env.dx x with
  |some (.int k m)=>(match env.dx y with
   |some (.int er n)=>bif decide (k=er)then(match op with
    |.quo=>some (.y [] (.int k (k.wrap (m.tdiv n))),([.int .i64 n],[]))
    |.rem=>some (.y [] (.int k (m.tmod n)),([.int .i64 n],[]))
    |_=>none)else none
   |_=>none)
  |_=>none
 |_=>none
def J4(env:au):Op→Option (dw×di)
 |.binOp op _ x y _=>match env.dx x with
  |some (.int k m)=>(match env.dx y with
   |some (.int _ n)=>(match op with
    |.shl=>some (.y [] (.int k (k.wrap (m*2 ^ min n.toNat k.bits))),([.int .i64 n],[]))
    |.shr=>some (.y [] (.int k (m.fdiv (2 ^ min n.toNat k.bits))),([.int .i64 n],[]))
    |_=>none)
   |_=>none)
  |_=>none
 |_=>none
def HZ(bY:hI)(env:au)(b:UInt8):Op→Option (dw×di)
 |.index T x y=>match bY.get T with
  |some ⟨_,_,_,.str⟩=>(match env.dx x with
   |some (.str s)=>(match env.dx y with
    |some (.int _ n)=>some (.y [] (.int .u8 (b.toNat:Int)),([.str s,.int .i64 n],[]))
    |_=>none)
   |_=>none)
  |_=>none
 |_=>none
def Jj(bY:hI)(env:au)(σ:ag)(E:Nat)(k:IntKind)(a:W)(b:Bool):Op→Option (dw×di)
 |.lookup T x y ok=>match bY.get T with
  |some ⟨_,_,_,.map K qQ er⟩=>(match env.dx x with
   |some (.dm d)=>(match env.dx y with
    |some (.int cn n)=>(match σ.get d with
     |some (.map jm rB bL)=>bif Nat.beq qQ E&&decide (er=k)&&decide (cn=k)&&Nat.beq jm K&&Nat.beq rB qQ then some (.y [d] (bif ok then .c5 [a,.bool b]else a),([.int .i64 n],[(0,.map 0 0 bL)]))else none
     |_=>none)
    |_=>none)
   |_=>none)
  |_=>none
 |_=>none
def Jw(bY:hI)(env:au)(σ:ag)(k:IntKind)(nw:List (W×W))(T:Nat)(x y z:Operand):Option (dw×di):=match bY.get T with
  |some ⟨_,_,_,.map K qQ er⟩=>(match env.dx x with
   |some (.dm d)=>(match env.dx y with
    |some (.int cn n)=>(match env.dx z with
     |some v=>(match σ.get d with
      |some (.map jm rB bL)=>bif decide (er=k)&&decide (cn=k)&&Nat.beq jm K&&Nat.beq rB qQ then some (.e [d] [] .undef (σ.set d (.map jm rB nw)),([.int .i64 n,v],[(0,.map 0 0 bL)]))else none
      |_=>none)
     |_=>none)
    |_=>none)
   |_=>none)
  |_=>none
def Om(bY:hI)(env:au)(σ:ag)(k:IntKind)(nw:List (W×W)):Op→Option (dw×di)
 |.mapUpdate T x y z=>Jw bY env σ k nw T x y z
 |.insert T x y z=>Jw bY env σ k nw T x y z
 |_=>none
def Jk(bY:hI)(env:au)(σ:ag)(k:IntKind)(n:Int):Op→Option (dw×di)
 |.call c=>match c.callee with
  |.builtin b=>(match b with
   |.len=>(match c.args.toList with
    |[x]=>(match c.argTypes.toList with
     |[T]=>(match bY.get T with
      |some ⟨_,_,_,.map K qQ er⟩=>(match env.dx x with
       |some (.dm d)=>(match σ.get d with
        |some (.map jm rB bL)=>bif decide (er=k)&&Nat.beq jm K&&Nat.beq rB qQ then some (.y [d] (.int .i64 n),([],[(0,.map 0 0 bL)]))else none
        |_=>none)
       |_=>none)
      |_=>none)
     |_=>none)
    |_=>none)
   |_=>none)
  |_=>none
 |_=>none
def J9(env:au)(neg:Bool)(T:Nat)(r:Bool):Op→Option (dw×di)
 |.binOp op be x y _=>match env.dx x with
  |none=>none
  |some a=>match env.dx y with
   |none=>none
   |some b=>bif a.plain&&b.plain&&Nat.beq be T then(match op with
    |.eql=>bif neg then none else some (.y [] (.bool r),([a,b],[]))
    |.neq=>bif neg then some (.y [] (.bool r),([a,b],[]))else none
    |_=>none)else none
 |_=>none
def J5(bY:hI)(env:au)(neg:Bool):Op→Option (dw×di)
 |.binOp op T x y _=>match env.dx x with
  |none=>none
  |some a=>match env.dx y with
   |some .c6=>(match bY.get T with
    |some ⟨_,_,_,.slice _ _ _ _⟩=>(match op with
     |.eql=>bif neg then none else some (.y [] (.bool false),([a],[]))
     |.neq=>bif neg then some (.y [] (.bool true),([a],[]))else none
     |_=>none)
    |_=>none)
   |_=>none
 |_=>none
def JJ(env:au)(T be:Nat)(r:W):Op→Option (dw×di)
 |.convert S Qs x=>match env.dx x with
  |none=>none
  |some a=>bif Nat.beq S T&&Nat.beq Qs be then some (.y [] r,([a],[]))else none
 |_=>none
def JI(env:au)(op:BinOp)(T:Nat)(r:W):Op→Option (dw×di)
 |.binOp Oy S x y _=>match env.dx x with
  |none=>none
  |some a=>match env.dx y with
   |none=>none
   |some b=>bif decide (Oy=op)&&Nat.beq S T then some (.y [] r,([a,b],[]))else none
 |_=>none
def DS{P:Program}(bY:hI)(ids:dI)(o:Oper)(env:au)(σ:ag):Hint P→Option (dw×di)
 |.EA=>match MS bY env σ o.op with
  |some (R,b9)=>some (.y R b9,([],[]))
  |none=>match OW env σ bY o.op with
   |some s=>some (s,([],[]))
   |none=>none
 |.al d=>match x3 bY ids env d o.op with|some s=>some (s,([],[]))|none=>none
 |.to h _ b _=>match DS bY ids o env σ h with
  |some (.y R b9,bc)=>some (.y R b,(b9::bc.1,bc.2))
  |_=>none
 |.ix sz _ _ row _=>I4 bY env σ sz row o.op
 |.lo d sz _ _ off row _=>Jl bY env σ d sz off row o.op
 |.so d sz _ _ off _ zs _ k _=>J6 bY env σ d sz off k zs o.op
 |.rf _ _ _ r _ _=>JW env σ r o.op
 |.ro xJ _ σs _ r _ _=>JZ env xJ σ σs r o.op
 |.le dB _ _ r _ _=>Jh env σ dB r o.op
 |.pz news _ dG _ r σ2 _ _=>Ii ids env σ dG news r σ2 o.op
 |.dl dB news _ _ r σ2 _ _ _=>Ik ids env σ dB news r σ2 o.op
 |.gs _ _ f _=>f ids o.op env σ
 |.ap d2 sz bytes _ _ zs _=>Ic bY ids env σ d2 sz bytes zs o.op
 |.sl sz _ _ _ zs _=>Gw bY env σ sz zs o.op
 |.ws d2 sz _ _ zs _=>DD bY ids env σ d2 sz zs o.op
 |.qr _ _=>JL env o.op
 |.sh _ _=>J4 env o.op
 |.is _ _ b _=>HZ bY env b o.op
 |.lk E k _ _ a b _=>Jj bY env σ E k a b o.op
 |.rZ k _ _ _ nw _=>Om bY env σ k nw o.op
 |.lm k _ n _=>Jk bY env σ k n o.op
 |.OV neg T _ _ r _=>J9 env neg T r o.op
 |.Gx neg _ _=>J5 bY env neg o.op
 |.s3 sz _ _ _ zs _=>Dk bY env σ sz zs o.op
 |.pu T be _ r _=>JJ env T be r o.op
 |.pb op T _ _ r _=>JI env op T r o.op
def i2.mono{G:cR}{o:Oper}{ev:Operand→W}{σ:ag}{M news:dI}{Φ Zp:W→ag→Prop}(h:i2 G o ev σ M news Φ)(aF:∀a s,Φ a s→Zp a s):i2 G o ev σ M news Zp:=by
 intro cx I β w bn av hop;have:=h cx I β w bn av hop;generalize (execOp bn o).run G.P w=r at this;cases r with
 |halt x w'=>exact this
 |ok n w'=>
  cases n<;>simp only[pN]at this ⊢
  ·obtain⟨a,s,bq,β',q,xB⟩:=this;exact⟨a,s,bq,β',aF _ _ q,xB⟩
  ·obtain⟨a,s,bq,β',q,xB⟩:=this;exact⟨a,s,bq,β',aF _ _ q,xB⟩
  ·exact Calls.mono this λ_ _ ⟨v,he,a,s,bq,β',q,xB⟩=>⟨v,he,a,s,bq,β',aF _ _ q,xB⟩
section
variable {P:Program}{N:Nat}{ids:dI}{bY:hI}{o:Oper}{env:au}{σ:ag}
def agc(aU:kJ P bY){s:dw}(h:OW env σ bY o.op=some s):gj ⟨P,N,ids⟩ o env σ s:=by
 cases an:o.op<;>rw[an]at h<;>simp only[OW]at h
 case store T x y=>
  split at h
  ·cases h
  ·rename_i i aT;have hk:=(ki.get aU.tys aT).ty;split at h
   ·rename_i d p u;split at h
    ·cases h
    ·rename_i a ai;split at h
     ·rename_i be cs af;split at h
      ·cases h
      ·rename_i ca yh;generalize U:(a.flat&&_&&_)=eU at h;cases eU with
       |false=>cases h
       |true=>
        simp only[cond_true]at h;simp only[Bool.and_eq_true]at U;split at h
        ·cases h
        ·rename_i pr Z;cases h
         exact⟨ax4 an (avz u) hk ai af U.1.1 yh U.1.2 U.2 Z,rfl⟩
     ·cases h
   ·cases h
 all_goals cases h
def agd(aU:kJ P bY){d:Nat}{s:dw}(h:x3 bY ids env d o.op=some s):gj ⟨P,N,ids⟩ o env σ s:=by
 cases an:o.op<;>rw[an]at h
 case alloc T=>
  simp only[x3]at h;split at h
  ·rename_i sz dW zs kd aT;have hz:=(ki.get aU.tys aT).arb _ rfl;split at h
   ·cases h
   ·rename_i cs Z;cases hi:ids.contains d with
    |true=>rw[hi]at h;cases h
    |false=>rw[hi]at h;cases h;exact⟨hi,b4.alloc an hz (vR Z) hi⟩
  ·cases h
 case box T x=>
  simp only[x3]at h;split at h
  ·cases h
  ·rename_i a u;split at h
   ·cases h
   ·rename_i cs Z;generalize U:(a.flat&&_&&_)=eU at h;cases eU with
    |false=>cases h
    |true=>
     cases h;simp only[Bool.and_eq_true,Bool.not_eq_true']at U;exact⟨U.2,b4.box an u U.1.1 Z U.1.2 U.2⟩
 case buildSlice T len parts=>
  simp only[x3]at h;split at h
  ·rename_i aT;have hk:=(ki.get aU.tys aT).kd;simp only[nR]at hk;generalize U:(Nat.beq parts.size len&&_&&_)=eU at h;cases eU with
   |false=>cases h
   |true=>
    simp only[cond_true]at h;simp only[Bool.and_eq_true,Bool.not_eq_true']at U;split at h
    ·cases h
    ·rename_i ps aF;split at h
     ·cases h
     ·rename_i xs bA;cases ah:nm xs.flatten with
      |false=>rw[ah]at h;cases h
      |true=>
       rw[ah]at h;cases h
       exact⟨U.2,(ax8 an hk.2.2 (by simpa using U.1.1) (by simpa using U.1.2) (by rw[←PT,awf aF];exact JK _ bA) ah U.2).off⟩
  ·cases h
 case makeMap T r=>
  cases r with
  |some r=>simp only[x3]at h;cases h
  |none=>
   simp only[x3]at h;split at h
   ·rename_i aT;cases hi:ids.contains d with
    |true=>rw[hi]at h;cases h
    |false=>rw[hi]at h;cases h;exact⟨hi,b6.makeMap an hi⟩
   ·cases h
 all_goals (simp only[x3]at h;cases h)
def awL{G:cR}{T E sz:Nat}{x y:Operand}{k:IntKind}{i:Int}{f:Bool}{ev:Operand→W}(xs:List (List W))(h:o.op=.indexAddr T x y)(u:ev x=.bf f xs)(ai:ev y=.int k i)(aT:lT G.P T E sz)
  (aJ:∀e∈xs,e.length=sz) (hi:0≤i∧i<xs.length):Yields G o ev σ [] [] (.gq (el xs i)):=
 .pure λaH cx I β w bn c3 av hop=>by
  have h1:=hop x (by simp[h,Op.operands]);rw[u]at h1
  have D:=hop y (by simp[h,Op.operands]);rw[ai]at D;have D:=kY D
  simp only[aC,bm]at h1;obtain⟨a,c,h1,aq,aZ,_,bV⟩:=h1;have bS:i.toNat<xs.length:=by omega
  rcases bV with bV|⟨b,p,rfl,bV⟩
  ·subst bV;simp at bS
  ·have i4:=Zc (sz:=sz) _ p i.toNat aJ bV bS;have qM:xs.getD i.toNat []=el xs i:=by
    simp[getD_eq_getElem?_getD,bS,el]
   rw[qM]at i4;refine⟨.pointer (some ⟨b,p+i.toNat*sz,none⟩),?_,by simp only[aC,bm];exact⟨b,_,rfl,i4⟩⟩;have aK:∀w,(underlying T).run G.P w=.ok (.slice E) w:=λw=>by simp[underlying,program,Sem.run,aT.gT]
   simp[execOp,h,h1,D,Instr.indexAt,asIntOf,aK,hi,aT.size,mx]
def age(aU:kJ P bY){sz:Nat}{xs:List (List W)}{i:Int}{row:List W}(cp:xZ sz xs i row){s:dw}{bc:di}(h:I4 bY env σ sz row o.op=some (s,bc))(he:bc=([.bf false xs,.int .i64 i],[])):gj ⟨P,N,ids⟩ o env σ s:=by
 obtain⟨de,ew,e1,iS⟩:=cp;cases an:o.op<;>rw[an]at h
 case indexAddr T x y=>
  simp only[I4]at h;split at h
  ·rename_i iU _ _ aT;have hk:=(ki.get aU.tys aT).kd;simp only[nR]at hk;split at h
   ·rename_i k yA ai;split at h
    ·rename_i f kU u;split at h
     ·cases h
     ·rename_i r aI;cases U:Nat.beq iU sz with
      |false=>rw[U]at h;cases h
      |true=>
       rw[U]at h;cases h
       simp only[Prod.mk.injEq,List.cons.injEq,W.bf.injEq,W.int.injEq,and_true,true_and]at he;obtain⟨rfl,rfl⟩:=he;have:=Nat.eq_of_beq_eq_true U;subst this;simp only[gj];rw[←vR aI,←iS];exact awL _ an (avz u) (avz ai) hk.1 de ⟨ew,e1⟩
    ·rename_i d u;split at h
     ·rename_i asm rk avv at6 atl af;cases U:(Nat.beq iU sz&&Nat.beq rk sz)with
      |false=>rw[U]at h;cases h
      |true=>
       rw[U]at h;cases h
       rw[Bool.and_eq_true]at U;simp only[Prod.mk.injEq,List.cons.injEq,W.bf.injEq,W.int.injEq,and_true,true_and]at he;obtain⟨rfl,rfl⟩:=he;have:=Nat.eq_of_beq_eq_true U.1;subst this;have:=Nat.eq_of_beq_eq_true U.2;subst this;exact aw3 _ id an (avz u) (avz ai) (by rw[A1];exact af) hk.1 ⟨ew,e1⟩
     ·rename_i kU af;split at h
      ·cases h
      ·rename_i r aI;cases U:Nat.beq iU sz with
       |false=>rw[U]at h;cases h
       |true=>
        rw[U]at h;cases h
        simp only[Prod.mk.injEq,List.cons.injEq,W.bf.injEq,W.int.injEq,and_true,true_and]at he;obtain⟨rfl,rfl⟩:=he;have:=Nat.eq_of_beq_eq_true U;subst this;simp only[gj];rw[←vR aI,←iS];exact Yields.win af (awL _ an (Ro (avz u)) (aaD (avz ai)) hk.1 de ⟨ew,e1⟩)
     ·cases h
    ·cases h
   ·cases h
  ·cases h
 all_goals (simp only[I4]at h;cases h)
def agf(aU:kJ P bY){d sz off:Nat}{xs:List (List W)}{i:Int}{row:List W}(cp:xZ sz xs i row){s:dw}{bc:di}(h:Jl bY env σ d sz off row o.op=some (s,bc))(he:bc=([.bf false xs,.ptr d (i.toNat*sz+off)],[])):gj ⟨P,N,ids⟩ o env σ s:=by
 obtain⟨de,ew,e1,iS⟩:=cp;cases an:o.op<;>rw[an]at h
 case load T x=>
  simp only[Jl]at h;split at h
  ·cases h
  ·rename_i aph aT;have hk:=(ki.get aU.tys aT).ty;split at h
   ·rename_i dO p u;split at h
    ·rename_i be iU kU k cT af;generalize U:(Nat.beq dO d&&_&&_&&_)=eU at h;cases eU with
     |false=>cases h
     |true=>
      simp only[cond_true]at h;simp only[Bool.and_eq_true]at U;obtain⟨⟨⟨ec,dY⟩,hb⟩,j3⟩:=U;split at h
      ·cases h
      ·rename_i a aA;cases h;simp only[Prod.mk.injEq,List.cons.injEq,W.bf.injEq,W.ptr.injEq,and_true,true_and]at he;obtain⟨rfl,rfl,rfl⟩:=he;have:=Nat.eq_of_beq_eq_true dY;subst this;exact axg (i:=i) _ id an (avz u) (by rw[A1];exact af) rfl ⟨ew,e1⟩ hk hb j3 (by rw[id_eq,iS];exact aA)
    ·cases h
   ·cases h
 all_goals (simp only[Jl]at h;cases h)
def agh(aU:kJ P bY){d sz off k:Nat}{xs zs:List (List W)}{i:Int}{ca:List W}(cp:Hp sz xs i off ca zs)(vI:(k:Int)≤i){s:dw}{bc:di}(h:J6 bY env σ d sz off k zs o.op=some (s,bc))(he:bc=([.bf false xs,.ptr d (i.toNat*sz+off),.agg ca],[])):gj ⟨P,N,ids⟩ o env σ s:=by
 obtain⟨⟨de,ew,e1,_⟩,iS⟩:=cp;cases an:o.op<;>rw[an]at h
 case store T x y=>
  simp only[J6]at h;split at h
  ·cases h
  ·rename_i aph aT;have hk:=(ki.get aU.tys aT).ty;split at h
   ·rename_i dO p u;split at h
    ·cases h
    ·rename_i a ai;split at h
     ·cases h
     ·rename_i ak8 yh;split at h
      ·rename_i be iU kU er cT af;generalize U:(Nat.beq dO d&&_&&_&&_&&_&&_&&_)=eU at h;cases eU with
       |false=>cases h
       |true=>
        simp only[cond_true]at h;simp only[Bool.and_eq_true]at U;obtain⟨⟨⟨⟨⟨⟨ec,dY⟩,hb⟩,j3⟩,wD⟩,ak0⟩,ak1⟩:=U;cases h;simp only[Prod.mk.injEq,List.cons.injEq,W.bf.injEq,W.ptr.injEq,W.agg.injEq,and_true,true_and]at he;obtain⟨rfl,⟨rfl,rfl⟩,rfl⟩:=he;have:=Nat.eq_of_beq_eq_true dY;subst this;have:=Nat.eq_of_beq_eq_true hb;subst this;have fs:=axN (G:=⟨P,N,ids⟩) (i:=i) (ev:=λx=>u3 (env.ev x)) kU id (jq (el kU i) off ak8) an (show u3 (env.ev x)=_ by rw[avz u];rfl) (show u3 (env.ev y)=_ by rw[avz ai]) (by rw[A1];exact af) rfl ⟨ew,e1⟩ vI hk j3 yh wD ak0 ak1 rfl;rw[A1,←iS]at fs;exact⟨fs.off,rfl⟩
      ·cases h
   ·cases h
 all_goals (simp only[J6]at h;cases h)
def agi{xJ:Nat}{f:FuncId}{σs:ag}{dX:List W}{r:W}(cp:dR P f σs dX r)(ah:c0 P f){s:dw}{bc:di}(h:JZ env xJ σ σs r o.op=some (s,bc))(he:bc=(.fn f []::dX,σs)):gj ⟨P,N,ids⟩ o env σ s:=by
 cases an:o.op<;>rw[an]at h
 case call c=>
  simp only[JZ]at h;split at h
  ·cases h
  ·rename_i rK cN aA;obtain⟨hS,args,k,aV,ps,rfl,bA,aF,rfl⟩:=C6 aA;split at h
   ·cases h
   ·rename_i sn qu;split at h
    ·cases h
    ·rename_i Eh Z;split at h
     ·cases h
     ·rename_i Qh aml;generalize U:(r.closed&&_)=eU at h;cases eU with
      |false=>cases h
      |true=>
       rw[Bool.and_eq_true]at U;cases h;simp only[Prod.mk.injEq,List.cons.injEq,W.fn.injEq,and_true]at he;obtain⟨⟨rfl,rfl⟩,rfl⟩:=he;exact b4.call (G:=⟨P,N,ids⟩) (σs:=sn) (dG:=Qh) an bA ah.h cp aF (PV Z) (avU qu).1 (avU aml).1 U.1 U.2
 all_goals (simp only[JZ]at h;cases h)
def agj{f:FuncId}{vt dX:List W}{r:W}(cp:dR P f [] (dX++vt) r)(ah:c0 P f){s:dw}{bc:di}(h:JW env σ r o.op=some (s,bc))(he:bc=(.fn f vt::dX,[])):gj ⟨P,N,ids⟩ o env σ s:=by
 cases an:o.op<;>rw[an]at h
 case call c=>
  simp only[JW]at h;split at h
  ·cases h
  ·rename_i rK cN wI aA;obtain⟨hS,args,k,rfl,bA,aF⟩:=abI aA;split at h
   ·cases h
   ·rename_i sn qu;split at h
    ·cases h
    ·rename_i Eh Z;cases U:r.closed with
     |false=>rw[U]at h;cases h
     |true=>
      rw[U]at h;cases h;simp only[Prod.mk.injEq,List.cons.injEq,W.fn.injEq,and_true]at he;obtain⟨⟨rfl,rfl⟩,rfl⟩:=he;exact axh (G:=⟨P,N,ids⟩) (σs:=sn) an bA ah.h (avU qu).1.mem (by rw[av4 aF];exact PV Z) cp U
 all_goals (simp only[JW]at h;cases h)
def agk{dB:dI}{f:FuncId}{dX:List W}{r:W}(cp:dR P f [] dX r)(ah:c0 P f){s:dw}{bc:di}(h:Jh env σ dB r o.op=some (s,bc))(he:bc=(.fn f []::dX,[])):gj ⟨P,N,ids⟩ o env σ s:=by
 cases an:o.op<;>rw[an]at h
 case call c=>
  simp only[Jh]at h;split at h
  ·cases h
  ·rename_i rK cN aA;obtain⟨hS,args,k,aV,ps,rfl,bA,aF,rfl⟩:=C6 aA;split at h
   ·cases h
   ·rename_i sn qu;split at h
    ·cases h
    ·rename_i Eh Z;cases U:r.jK with
     |false=>rw[U]at h;cases h
     |true=>
      rw[U]at h;cases h;simp only[Prod.mk.injEq,List.cons.injEq,W.fn.injEq,and_true]at he;obtain⟨rfl,rfl⟩:=he;exact axu (G:=⟨P,N,ids⟩) (σs:=sn) 9 an bA ah.h cp aF Z (avU qu).1 U
 all_goals (simp only[Jh]at h;cases h)
def agl{news:dI}{f:FuncId}{dG σ2:ag}{dX:List W}{r:W}(cp:eT P f dG dX (λa aH=>a=r∧aH=σ2))(ah:c0 P f){s:dw}{bc:di}(h:Ii ids env σ dG news r σ2 o.op=some (s,bc))(he:bc=(.fn f []::dX,dG)):gj ⟨P,N,ids⟩ o env σ s:=by
 cases an:o.op<;>rw[an]at h
 case call c=>
  simp only[Ii]at h;split at h
  ·cases h
  ·rename_i rK cN aA;obtain⟨hS,args,k,aV,ps,rfl,bA,aF,rfl⟩:=C6 aA;split at h
   ·cases h
   ·rename_i Eh Z;split at h
    ·cases h
    ·rename_i VM qu;generalize U:(news.all _&&_&&_&&_)=eU at h;cases eU with
     |false=>cases h
     |true=>
      simp only[Bool.and_eq_true,Bool.not_eq_true']at U;obtain⟨⟨⟨ec,dY⟩,hb⟩,j3⟩:=U;cases h;simp only[Prod.mk.injEq,List.cons.injEq,W.fn.injEq,and_true]at he;obtain⟨⟨rfl,rfl⟩,rfl⟩:=he;refine⟨?_,by rw[List.all_eq_true]at ec ⊢;exact λd af=>((Bool.and_eq_true _ _).mp (ec d af)).1⟩;have fs:=awq (G:=⟨P,N,ids⟩) (σ:=σ) news an bA ah.h cp aF (AP Z) (avU qu).1 ec dY (λr' arL b0=>by obtain⟨rfl,rfl⟩:=b0;exact⟨hb,j3⟩);exact fs.mono λa s ⟨arL,⟨h1,D⟩,aq⟩=>⟨h1,by rw[aq,D]⟩
 all_goals (simp only[Ii]at h;cases h)
def agm{dB news:dI}{f:FuncId}{σ2:ag}{dX:List W}{r:W}(cp:eT P f [] dX (λa aH=>a=r∧aH=σ2))(ah:c0 P f)(B8:y2 σ2){s:dw}{bc:di}(h:Ik ids env σ dB news r σ2 o.op=some (s,bc))(he:bc=(.fn f []::dX,[])):gj ⟨P,N,ids⟩ o env σ s:=by
 cases an:o.op<;>rw[an]at h
 case call c=>
  simp only[Ik]at h;split at h
  ·cases h
  ·rename_i rK cN aA;obtain⟨hS,args,k,aV,ps,rfl,bA,aF,rfl⟩:=C6 aA;split at h
   ·cases h
   ·rename_i sn qu;split at h
    ·cases h
    ·rename_i Eh Z;generalize U:(news.all _&&_&&_&&_&&_)=eU at h;cases eU with
     |false=>cases h
     |true=>
      simp only[Bool.and_eq_true,Bool.not_eq_true']at U;obtain⟨⟨⟨⟨ec,dY⟩,hb⟩,j3⟩,wD⟩:=U;cases h;simp only[Prod.mk.injEq,List.cons.injEq,W.fn.injEq,and_true]at he;obtain⟨rfl,rfl⟩:=he;exact⟨axT (G:=⟨P,N,ids⟩) (σs:=sn) 9 news an bA ah.h cp aF Z (avU qu).1 ec dY hb j3 wD B8,by rw[List.all_eq_true]at ec ⊢;exact λd af=>((Bool.and_eq_true _ _).mp (ec d af)).1⟩
 all_goals (simp only[Ik]at h;cases h)
def afH(aU:kJ P bY){d2 sz bytes:Nat}{xs bF zs:List (List W)}(cp:Br sz bytes xs bF zs){s:dw}{bc:di}(h:Ic bY ids env σ d2 sz bytes zs o.op=some (s,bc))(he:bc=([.bf false xs,.bf false bF],[])):gj ⟨P,N,ids⟩ o env σ s:=by
 obtain⟨C4,de,ew,e1,iS,pe⟩:=cp;cases an:o.op<;>rw[an]at h
 case call c=>
  obtain⟨cl,args,tys⟩:=c;simp only[Ic]at h;split at h
  ·split at h
   ·split at h
    ·rename_i k6 m7 mV;have:args=#[k6,m7]:=Array.toList_inj.1 (by simpa using mV);subst this;split at h
     ·rename_i T oq zW;have:tys=#[T,oq]:=Array.toList_inj.1 (by simpa using zW);subst this;split at h
      ·rename_i E iU WN avx aT;have hk:=(ki.get aU.tys aT).kd;simp only[nR]at hk;generalize U:(Nat.beq T oq&&_&&_&&_)=eU at h;cases eU with
       |false=>cases h
       |true=>
        simp only[cond_true]at h;simp only[Bool.and_eq_true,Bool.not_eq_true']at U;obtain⟨⟨⟨ec,dY⟩,hb⟩,j3⟩:=U;have:=Nat.eq_of_beq_eq_true ec;subst this;have:=Nat.eq_of_beq_eq_true dY;subst this;have:=Nat.eq_of_beq_eq_true hb;subst this;split at h
        ·cases h
        ·rename_i oI u;split at h
         ·rename_i f PW Z;have vL:jJ σ (env.ev m7) (.bf f PW):=by rw[avz u];exact u0 Z
          split at h
          ·rename_i d mU;split at h
           ·rename_i be rk kU k cT af;generalize eO:(Nat.beq be E&&_&&_)=eU at h;cases eU with
            |false=>cases h
            |true=>
             simp only[cond_true]at h;simp only[Bool.and_eq_true]at eO;obtain⟨⟨bk,bK⟩,cq⟩:=eO;have:=Nat.eq_of_beq_eq_true bk;subst this;have:=Nat.eq_of_beq_eq_true bK;subst this;cases h;simp only[Prod.mk.injEq,List.cons.injEq,W.bf.injEq,and_true,true_and]at he;obtain⟨rfl,rfl⟩:=he;refine⟨?_,by simpa using j3⟩;rw[←C4];exact dD.append (G:=⟨P,N,ids⟩) an (avz mU) af vL hk.2.1 rfl ew e1 iS pe j3 cq
           ·rename_i be rk kU af;generalize eO:(Nat.beq be E&&_&&_)=eU at h;cases eU with
            |false=>cases h
            |true=>
             simp only[cond_true]at h;simp only[Bool.and_eq_true]at eO;obtain⟨⟨bk,bK⟩,cq⟩:=eO;have:=Nat.eq_of_beq_eq_true bk;subst this;have:=Nat.eq_of_beq_eq_true bK;subst this;cases h;simp only[Prod.mk.injEq,List.cons.injEq,W.bf.injEq,and_true,true_and]at he;obtain⟨rfl,rfl⟩:=he;refine⟨?_,by simpa using j3⟩;rw[←C4];exact axM (G:=⟨P,N,ids⟩) an (avz mU) af vL hk.2.1 rfl ew e1 iS pe j3 cq
           ·cases h
          ·rename_i mU;generalize eO:(ag.clean _ _)=eU at h;cases eU with
           |false=>cases h
           |true=>
            cases h;simp only[Prod.mk.injEq,List.cons.injEq,W.bf.injEq,and_true,true_and]at he;obtain⟨rfl,rfl⟩:=he;refine⟨?_,by simpa using j3⟩;rw[←C4];exact awv (G:=⟨P,N,ids⟩) an (.inl ⟨avz mU,rfl⟩) vL hk.2.1 de ew e1 iS pe j3 eO
          ·rename_i kU mU;generalize eO:(ag.clean _ _&&_)=eU at h;cases eU with
           |false=>cases h
           |true=>
            cases h;rw[Bool.and_eq_true]at eO;simp only[Prod.mk.injEq,List.cons.injEq,W.bf.injEq,and_true,true_and]at he;obtain⟨rfl,rfl⟩:=he;refine⟨?_,by simpa using j3⟩;rw[←C4];exact awv (G:=⟨P,N,ids⟩) an (.inr ⟨avz mU,(Iff.of_eq Nat.blt_eq).1 eO.2⟩) vL hk.2.1 de ew e1 iS pe j3 eO.1
          ·cases h
         ·cases h
      ·cases h
     ·cases h
    ·cases h
   ·cases h
  ·cases h
 all_goals (simp only[Ic]at h;cases h)
def afI(aU:kJ P bY){d2 sz:Nat}{xs zs:List (List W)}{a:Int}(cp:vn sz xs a xs.length zs){s:dw}{bc:di}(h:DD bY ids env σ d2 sz zs o.op=some (s,bc))(he:bc=([.bf false xs,.int .i64 a],[])):gj ⟨P,N,ids⟩ o env σ s:=by
 obtain⟨de,ew,e1⟩:=cp;cases an:o.op<;>rw[an]at h
 case slice T x lo hi ri=>
  cases hi with
  |some m=>cases ri<;>simp only[DD]at h<;>cases h
  |none=>
  cases ri with
  |some m=>simp only[DD]at h;cases h
  |none=>
   simp only[DD]at h;split at h
   ·rename_i iU _ _ aT;have hk:=(ki.get aU.tys aT).kd;simp only[nR]at hk;split at h
    ·rename_i d u;split at h
     ·rename_i be rk kU af;split at h
      ·cases h
      ·rename_i gW aA;generalize U:(Nat.beq iU sz&&_&&_&&_)=eU at h;cases eU with
       |false=>cases h
       |true=>
        simp only[cond_true]at h;simp only[Bool.and_eq_true,Bool.not_eq_true']at U;obtain⟨⟨⟨ec,dY⟩,hb⟩,j3⟩:=U;have:=Nat.eq_of_beq_eq_true ec;subst this;have:=Nat.eq_of_beq_eq_true dY;subst this;cases h;simp only[Prod.mk.injEq,List.cons.injEq,W.bf.injEq,W.int.injEq,and_true,true_and]at he;obtain⟨rfl,rfl⟩:=he;obtain⟨ak,ax⟩:=Lh aA;refine⟨?_,by simpa using hb⟩;have fs:=axO (G:=⟨P,N,ids⟩) (d2:=d2) an (avz u) af hk.1 ak (by rw[ax];exact⟨ew.1,ew.2.1⟩) hb j3;rw[ax]at fs;rw[←e1];simpa using fs
     ·cases h
    ·cases h
   ·cases h
 all_goals (simp only[DD]at h;cases h)
def afJ(aU:kJ P bY){sz:Nat}{xs zs:List (List W)}{a b:Int}(cp:vn sz xs a b zs){s:dw}{bc:di}(h:Gw bY env σ sz zs o.op=some (s,bc))(he:bc=([.bf false xs,.int .i64 a,.int .i64 b],[])):gj ⟨P,N,ids⟩ o env σ s:=by
 obtain⟨de,ew,e1⟩:=cp;cases an:o.op<;>rw[an]at h
 case slice T x lo hi ri=>
  cases ri with
  |some m=>simp only[Gw]at h;cases h
  |none=>
   simp only[Gw]at h;split at h
   ·rename_i iU _ _ aT;have hk:=(ki.get aU.tys aT).kd;simp only[nR]at hk;split at h
    ·cases h
    ·rename_i oI u;split at h
     ·rename_i f kU Z;split at h
      ·cases h
      ·rename_i gW aA;split at h
       ·cases h
       ·rename_i aS ic;cases U:Nat.beq iU sz with
        |false=>rw[U]at h;cases h
        |true=>
         rw[U]at h;cases h
         simp only[Prod.mk.injEq,List.cons.injEq,W.bf.injEq,W.int.injEq,and_true,true_and]at he;obtain⟨rfl,rfl,rfl⟩:=he;have:=Nat.eq_of_beq_eq_true U;subst this;obtain⟨ak,ax⟩:=Lh aA;obtain⟨aO,aL⟩:=Li ic
         have hZ:=b6.slice (G:=⟨P,N,ids⟩) (σ:=σ) an (by rw[avz u];exact u0 Z) hk.1 de ak aO (by rw[ax,aL];exact ew) (DR oI) (λaH c3=>by
          rw[avz u];have:kj [] aH oI=some (.bf f kU):=by
           cases oI
           case own d=>simp only[kj]at Z ⊢;rw[c3 _ (by simp[DR])];exact Z
           case bf b l=>cases b<;>exact Z
           case dm d=>simp only[kj]at Z;split at Z<;>first|cases Z|(split at Z<;>cases Z)
           case agg l=>simp only[kj]at Z;split at Z<;>cases Z
           case c5 l=>simp only[kj]at Z;split at Z<;>cases Z
           case fn f l=>simp only[kj]at Z;split at Z<;>cases Z
           all_goals exact Z
          exact u0 this)
         rw[ax,aL,e1]at hZ;exact hZ
     ·cases h
   ·cases h
 all_goals (simp only[Gw]at h;cases h)
def afK{n:Int}(cp:n≠0){s:dw}{bc:di}(h:JL env o.op=some (s,bc))(he:bc=([.int .i64 n],[])):gj ⟨P,N,ids⟩ o env σ s:=by
 cases an:o.op<;>rw[an]at h
 case binOp op T x y be=>
  simp only[JL]at h;split at h
  ·rename_i k m u;split at h
   ·rename_i er jj ai;cases oU:decide (k=er)with
    |false=>rw[oU]at h;cases h
    |true=>
     rw[oU]at h;simp only[cond_true]at h;have:=of_decide_eq_true oU;subst this;split at h
     ·cases h;simp only[Prod.mk.injEq,List.cons.injEq,W.int.injEq,and_true,true_and]at he;subst he;exact axr an (avz u) (avz ai) cp
     ·cases h;simp only[Prod.mk.injEq,List.cons.injEq,W.int.injEq,and_true,true_and]at he;subst he;exact b6.rem an (avz u) (avz ai) cp
     ·cases h
   ·cases h
  ·cases h
 all_goals (simp only[JL]at h;cases h)
def afL{n:Int}(cp:0≤n){s:dw}{bc:di}(h:J4 env o.op=some (s,bc))(he:bc=([.int .i64 n],[])):gj ⟨P,N,ids⟩ o env σ s:=by
 cases an:o.op<;>rw[an]at h
 case binOp op T x y be=>
  simp only[J4]at h;split at h
  ·rename_i k m u;split at h
   ·rename_i er jj ai;split at h
    ·cases h;simp only[Prod.mk.injEq,List.cons.injEq,W.int.injEq,and_true,true_and]at he;subst he;exact b6.shift (op:=.shl) (.inl rfl) an (avz u) (avz ai) cp
    ·cases h;simp only[Prod.mk.injEq,List.cons.injEq,W.int.injEq,and_true,true_and]at he;subst he;exact b6.shift (op:=.shr) (.inr rfl) an (avz u) (avz ai) cp
    ·cases h
   ·cases h
  ·cases h
 all_goals (simp only[J4]at h;cases h)
def aeM(aU:kJ P bY){k6:ByteArray}{n:Int}{b:UInt8}(cp:0≤n∧k6[n.toNat]?=some b){s:dw}{bc:di}(h:HZ bY env b o.op=some (s,bc))(he:bc=([.str k6,.int .i64 n],[])):gj ⟨P,N,ids⟩ o env σ s:=by
 cases an:o.op<;>rw[an]at h
 case index T x y=>
  simp only[HZ]at h;split at h
  ·rename_i aT;have hk:=(ki.get aU.tys aT).kd;simp only[nR]at hk;split at h
   ·rename_i dh u;split at h
    ·rename_i k jj ai;cases h;simp only[Prod.mk.injEq,List.cons.injEq,W.str.injEq,W.int.injEq,and_true,true_and]at he;obtain⟨rfl,rfl⟩:=he;exact aw2 an (avz u) (avz ai) hk cp.1 cp.2
    ·cases h
   ·cases h
  ·cases h
 all_goals (simp only[HZ]at h;cases h)
def afM(aU:kJ P bY){E:Nat}{k:IntKind}{bL:List (W×W)}{n:Int}{a:W}{b:Bool}(cp:Hj P E k bL n a b){s:dw}{bc:di}(h:Jj bY env σ E k a b o.op=some (s,bc))(he:bc=([.int .i64 n],[(0,.map 0 0 bL)])):gj ⟨P,N,ids⟩ o env σ s:=by
 obtain⟨α,l,enc,z,rfl,rfl,rfl,hz⟩:=cp;cases an:o.op<;>rw[an]at h
 case lookup T x y ok=>
  simp only[Jj]at h;split at h
  ·rename_i K qQ er aT;have hk:=(ki.get aU.tys aT).kd;simp only[nR]at hk;split at h
   ·rename_i d u;split at h
    ·rename_i cn jj ai;split at h
     ·rename_i jm rB nw af;generalize U:(Nat.beq qQ E&&_&&_&&_&&_)=eU at h;cases eU with
      |false=>cases h
      |true=>
       simp only[Bool.and_eq_true]at U;obtain⟨⟨⟨⟨ec,dY⟩,hb⟩,j3⟩,wD⟩:=U;have:=Nat.eq_of_beq_eq_true ec;subst this;have:=of_decide_eq_true dY;subst this;have:=of_decide_eq_true hb;subst this;have:=Nat.eq_of_beq_eq_true j3;subst this;have:=Nat.eq_of_beq_eq_true wD;subst this;cases h;simp only[Prod.mk.injEq,List.cons.injEq,W.int.injEq,cE.map.injEq,and_true,true_and]at he;obtain⟨rfl,rfl⟩:=he;exact b6.lookup l enc z an (avz u) (avz ai) af hk hz
     ·cases h
    ·cases h
   ·cases h
  ·cases h
 all_goals (simp only[Jj]at h;cases h)
def Tw(aU:kJ P bY){k:IntKind}{bL nw:List (W×W)}{n:Int}{v:W}(cp:D5 k bL n v nw){T:Nat}{x y z:Operand}(an:o.op=.mapUpdate T x y z∨o.op=.insert T x y z){s:dw}{bc:di}(h:Jw bY env σ k nw T x y z=some (s,bc))(he:bc=([.int .i64 n,v],[(0,.map 0 0 bL)])):gj ⟨P,N,ids⟩ o env σ s:=by
 obtain⟨α,l,enc,q,rfl,rfl,ah,rfl⟩:=cp;simp only[Jw]at h;split at h
 ·rename_i K qQ er aT;have hk:=(ki.get aU.tys aT).kd;simp only[nR]at hk;split at h
  ·rename_i d u;split at h
   ·rename_i cn jj ai;split at h
    ·rename_i dM hz;split at h
     ·rename_i jm rB nw af;generalize U:(decide (er=k)&&_&&_&&_)=eU at h;cases eU with
      |false=>cases h
      |true=>
       simp only[Bool.and_eq_true]at U;obtain⟨⟨⟨dY,hb⟩,j3⟩,wD⟩:=U;have:=of_decide_eq_true dY;subst this;have:=of_decide_eq_true hb;subst this;have:=Nat.eq_of_beq_eq_true j3;subst this;have:=Nat.eq_of_beq_eq_true wD;subst this;cases h;simp only[Prod.mk.injEq,List.cons.injEq,W.int.injEq,cE.map.injEq,and_true,true_and]at he;obtain⟨⟨rfl,rfl⟩,rfl⟩:=he;exact⟨dD.mapUpdate l enc q an (avz u) (avz ai) (avz hz) ah af hk,rfl⟩
     ·cases h
    ·cases h
   ·cases h
  ·cases h
 ·cases h
def afN(aU:kJ P bY){k:IntKind}{bL nw:List (W×W)}{n:Int}{v:W}(cp:D5 k bL n v nw){s:dw}{bc:di}(h:Om bY env σ k nw o.op=some (s,bc))(he:bc=([.int .i64 n,v],[(0,.map 0 0 bL)])):gj ⟨P,N,ids⟩ o env σ s:=by
 cases an:o.op<;>rw[an]at h
 case mapUpdate T x y z=>exact Tw aU cp (.inl an) h he
 case insert T x y z=>exact Tw aU cp (.inr an) h he
 all_goals (simp only[Om]at h;cases h)
def afO(aU:kJ P bY){k:IntKind}{bL:List (W×W)}{n:Int}(cp:Hk k bL n){s:dw}{bc:di}(h:Jk bY env σ k n o.op=some (s,bc))(he:bc=([],[(0,.map 0 0 bL)])):gj ⟨P,N,ids⟩ o env σ s:=by
 obtain⟨α,l,enc,rfl,rfl⟩:=cp;cases an:o.op<;>rw[an]at h
 case call c=>
  obtain⟨cl,args,tys⟩:=c;simp only[Jk]at h;split at h
  ·split at h
   ·split at h
    ·rename_i x mV;have:args=#[x]:=Array.toList_inj.1 (by simpa using mV);subst this;split at h
     ·rename_i T zW;have:tys=#[T]:=Array.toList_inj.1 (by simpa using zW);subst this;split at h
      ·rename_i K qQ er aT;have hk:=(ki.get aU.tys aT).kd;simp only[nR]at hk;split at h
       ·rename_i d u;split at h
        ·rename_i jm rB nw af;generalize U:(decide (er=k)&&_&&_)=eU at h;cases eU with
         |false=>cases h
         |true=>
          simp only[Bool.and_eq_true]at U;obtain⟨⟨dY,j3⟩,wD⟩:=U;have:=of_decide_eq_true dY;subst this;have:=Nat.eq_of_beq_eq_true j3;subst this;have:=Nat.eq_of_beq_eq_true wD;subst this;cases h;simp only[Prod.mk.injEq,List.cons.injEq,cE.map.injEq,and_true,true_and]at he;subst he;exact axo l enc an rfl (avz u) af hk.gT
        ·cases h
       ·cases h
      ·cases h
     ·cases h
    ·cases h
   ·cases h
  ·cases h
 all_goals (simp only[Jk]at h;cases h)
def afP{neg:Bool}{T:Nat}{a b:W}{r:Bool}(cp:∀(x y:Operand) w,(do eqGuard (bif neg then .neq else .eql) T x y (valOf a) (valOf b);binOp (bif neg then .neq else .eql) T (valOf a) (valOf b):Sem Value).run P w=.ok (.bool r) w)
  {s:dw} {bc:di} (h:J9 env neg T r o.op=some (s,bc)) (he:bc=([a,b],[])):gj ⟨P,N,ids⟩ o env σ s:=by
 cases an:o.op<;>rw[an]at h
 case binOp op be x y oq=>
  simp only[J9]at h;split at h
  ·cases h
  ·rename_i gW u;split at h
   ·cases h
   ·rename_i aS ai;generalize U:(gW.plain&&_&&_)=eU at h;cases eU with
    |false=>cases h
    |true=>
     simp only[cond_true]at h;simp only[Bool.and_eq_true]at U;have:=Nat.eq_of_beq_eq_true U.2;subst this;split at h
     ·cases neg with
      |true=>cases h
      |false=>
       cases h;simp only[Prod.mk.injEq,List.cons.injEq,and_true]at he;obtain⟨rfl,rfl⟩:=he;exact axt an (avz u) (avz ai) U.1.1 U.1.2 (cp x y)
     ·cases neg with
      |false=>cases h
      |true=>
       cases h;simp only[Prod.mk.injEq,List.cons.injEq,and_true]at he;obtain⟨rfl,rfl⟩:=he;exact axp an (avz u) (avz ai) U.1.1 U.1.2 (cp x y)
     ·cases h
 all_goals (simp only[J9]at h;cases h)
def afQ{T be:Nat}{a r:W}(cp:∀(o:Oper) (N:Nat) (ids:dI) (ev:Operand→W) (σ:ag) (x:Operand),o.op=.convert T be x→ev x=a→Yields ⟨P,N,ids⟩ o ev σ [] [] r){s:dw}{bc:di}(h:JJ env T be r o.op=some (s,bc))(he:bc=([a],[])):gj ⟨P,N,ids⟩ o env σ s:=by
 cases an:o.op<;>rw[an]at h
 case convert S Qs x=>
  simp only[JJ]at h;split at h
  ·cases h
  ·rename_i gW u;generalize U:(Nat.beq S T&&_)=eU at h;cases eU with
   |false=>cases h
   |true=>
    simp only[cond_true]at h;simp only[Bool.and_eq_true]at U;have h1:=Nat.eq_of_beq_eq_true U.1;have D:=Nat.eq_of_beq_eq_true U.2;subst h1;subst D
    cases h;simp only[Prod.mk.injEq,List.cons.injEq,and_true]at he;subst he;exact cp o N ids env.ev σ x an (avz u)
 all_goals (simp only[JJ]at h;cases h)
def afR{op:BinOp}{T:Nat}{a b r:W}(cp:∀(o:Oper) (N:Nat) (ids:dI) (ev:Operand→W) (σ:ag) (x y:Operand) (be:Nat),o.op=.binOp op T x y be→ev x=a→ev y=b→Yields ⟨P,N,ids⟩ o ev σ [] [] r){s:dw}{bc:di}(h:JI env op T r o.op=some (s,bc))(he:bc=([a,b],[])):gj ⟨P,N,ids⟩ o env σ s:=by
 cases an:o.op<;>rw[an]at h
 case binOp Oy S x y be=>
  simp only[JI]at h;split at h
  ·cases h
  ·rename_i gW u;split at h
   ·cases h
   ·rename_i aS ai;generalize U:(decide (Oy=op)&&_)=eU at h;cases eU with
    |false=>cases h
    |true=>
     simp only[cond_true]at h;simp only[Bool.and_eq_true]at U;have h1:=of_decide_eq_true U.1;have D:=Nat.eq_of_beq_eq_true U.2;subst h1;subst D
     cases h;simp only[Prod.mk.injEq,List.cons.injEq,and_true]at he;obtain⟨rfl,rfl⟩:=he;exact cp o N ids env.ev σ x y be an (avz u) (avz ai)
 all_goals (simp only[JI]at h;cases h)
def aww{G:cR}{ev:Operand→W}{T E sz:Nat}{x hi ri:Operand}{f:Bool}{lo:Option Operand}{xs:List (List W)}{aR:Int}(h:o.op=.slice T x lo (some hi) (some ri))(u:jJ σ (ev x) (.bf f xs))(aT:lT G.P T E sz)(eH:∀e∈xs,e.length=sz)(CD:yY ev lo)
  (N3:yY ev (some hi)) (anR:yY ev (some ri)) (WS:uv ev xs.length (some hi)=aR) (em:uv ev xs.length (some ri)=aR)
  (hf:0≤nQ ev lo∧nQ ev lo≤aR∧aR≤xs.length) (R:dI) (c3:∀aH:ag,(∀d∈R,aH.get d=σ.get d)→jJ aH (ev x) (.bf f xs)) :
  Yields G o ev σ [] R (.bf true ((xs.take aR.toNat).drop (nQ ev lo).toNat)):=
 .pure λaH cx I β w bn Ni av hop=>by
  have h1:=(c3 aH Ni).rep av _ (hop x (by simp[h,Op.operands]));simp only[aC,bm]at h1;obtain⟨a,c,h1,D,aq,_,aZ⟩:=h1;generalize aJ:nQ ev lo=l at hf ⊢;have aK:(Instr.sliceBounds true xs.length c (lo.map bn) (some (bn hi)) (some (bn ri))).run G.P w=.ok (l.toNat,aR.toNat,aR.toNat) w:=by
   have hu:0≤aR∧aR≤(c:Int):=by omega
   have IC:0≤l∧l≤(aR.toNat:Int):=by omega
   obtain⟨Oc,nz,nF,pS⟩:=A7 N3 (hop hi (by simp[h,Op.operands]));obtain⟨anW,X0,m1,m2⟩:=A7 anR (hop ri (by simp[h,Op.operands]));simp only[uv,nF]at WS;simp only[uv,m1]at em;subst WS em;have OI:=run_sliceBound (P:=G.P) (k:=anW) (code:=.slice3Acap) (w:=w) hu;have hw:=run_sliceBound (P:=G.P) (k:=Oc) (n:=X0) (y:=X0.toNat) (code:=.slice3B) (w:=w) (by omega);cases lo with
   |none=>
    simp only[nQ]at aJ;subst aJ;simp[Instr.sliceBounds,pS,m2,OI,hw]
   |some y=>
    obtain⟨k,n,ak,ax⟩:=A7 CD (hop y (by simp[h,Op.operands]));simp only[nQ,ak]at aJ;subst aJ;have:=run_sliceBound (P:=G.P) (k:=k) (code:=.slice3C) (w:=w) IC;simp[Instr.sliceBounds,pS,m2,OI,hw,ax,this]
  have eV:(execOp bn o).run G.P w=.ok (.value (.slice (if aR.toNat=l.toNat then a else a.map (·.add (l.toNat*sz))) (aR.toNat-l.toNat) (aR.toNat-l.toNat))) w:=by
   have e2:∀w,(underlying T).run G.P w=.ok (.slice E) w:=λw=>run_underlying aT.gT w;simp only[execOp,h,Instr.sliceAt,Instr.slice,h1,Sem.run_bind,e2,Result.andThen_ok,Option.map_some,aK,aT.size,Sem.run_pure]
  refine⟨_,eV,?_⟩;simp only[aC,bm];have yp:((xs.take aR.toNat).drop l.toNat).length=aR.toNat-l.toNat:=by rw[length_drop,length_take];omega
  refine⟨_,aR.toNat-l.toNat,by rw[yp],by rw[yp];omega,by omega,λ_=>yp.symm,?_⟩;by_cases he:(xs.take aR.toNat).drop l.toNat=[]
  ·exact .inl he
  ·right;have bS:l.toNat<aR.toNat:=by
    rcases Nat.lt_or_ge l.toNat aR.toNat with q|q
    ·exact q
    ·exact absurd (eq_nil_of_length_eq_zero (by rw[yp];omega)) he
   rcases aZ with rfl|⟨b,p,rfl,aZ⟩
   ·simp at he
   ·refine⟨b,p+l.toNat*sz,?_,JD _ _ _ (λe b0=>eH e (mem_of_mem_take b0)) (OR _ _ _ aZ)⟩;rw[if_neg (by omega)];simp[mx]
def afS(aU:kJ P bY){sz:Nat}{xs zs:List (List W)}{a b:Int}(cp:vn sz xs a b zs){s:dw}{bc:di}(h:Dk bY env σ sz zs o.op=some (s,bc))(he:bc=([.bf false xs,.int .i64 a,.int .i64 b,.int .i64 b],[])):gj ⟨P,N,ids⟩ o env σ s:=by
 obtain⟨de,ew,e1⟩:=cp;cases an:o.op<;>rw[an]at h
 case slice T x lo hi ri=>
  cases ri with
  |none=>cases hi<;>(simp only[Dk]at h;cases h)
  |some ri=>cases hi with
   |none=>simp only[Dk]at h;cases h
   |some hi=>
    simp only[Dk]at h;split at h
    ·rename_i iU _ _ aT;have hk:=(ki.get aU.tys aT).kd;simp only[nR]at hk;split at h
     ·cases h
     ·rename_i oI u;split at h
      ·rename_i f kU Z;split at h
       ·cases h
       ·rename_i gW aA;split at h
        ·cases h
        ·rename_i aS ic;split at h
         ·cases h
         ·rename_i dY eO;cases U:Nat.beq iU sz with
          |false=>rw[U]at h;cases h
          |true=>
           rw[U]at h;cases h
           simp only[Prod.mk.injEq,List.cons.injEq,W.bf.injEq,W.int.injEq,and_true,true_and]at he;obtain⟨rfl,rfl,rfl,alB⟩:=he;have:=Nat.eq_of_beq_eq_true U;subst this;obtain⟨ak,ax⟩:=Lh aA;obtain⟨aO,aL⟩:=Li ic;obtain⟨bg,bI⟩:=Li eO
           have hZ:=aww (G:=⟨P,N,ids⟩) (σ:=σ) an (by rw[avz u];exact u0 Z) hk.1 de ak aO bg aL (bI.trans alB) (by rw[ax];exact ew) (DR oI) (λaH c3=>by
            rw[avz u];have:kj [] aH oI=some (.bf f kU):=by
             cases oI
             case own d=>simp only[kj]at Z ⊢;rw[c3 _ (by simp[DR])];exact Z
             case bf b l=>cases b<;>exact Z
             case dm d=>simp only[kj]at Z;split at Z<;>first|cases Z|(split at Z<;>cases Z)
             case agg l=>simp only[kj]at Z;split at Z<;>cases Z
             case c5 l=>simp only[kj]at Z;split at Z<;>cases Z
             case fn f l=>simp only[kj]at Z;split at Z<;>cases Z
             all_goals exact Z
            exact u0 this)
           rw[ax,e1]at hZ;exact hZ
      ·cases h
    ·cases h
 all_goals (simp only[Dk]at h;cases h)
def Yc{P:Program}(op:BinOp)(t:TypeId)(x y:Operand)(a gW:Option Addr)(n jj c nZ:Nat)(w:World):(eqGuard op t x y (.slice a n c) (.slice gW jj nZ)).run P w=.ok () w:=by
 unfold eqGuard;cases op<;>rfl
def aqI{P:Program}(w:World)(t e:TypeId)(a:Option Addr)(n c jj nZ:Nat)(h:P.underlying t=some (.slice e)):(binOp .neq t (.slice a n c) (.slice none jj nZ)).run P w=.ok (.bool (!a.isNone)) w:=by
 simp only[binOp];simp[Op.equal,Op.maxDepth,Lib.run_equalIn_slice_nil w 9999 t e a n c jj nZ h]
def afT(aU:kJ P bY){neg:Bool}{a:W}(cp:HX a){s:dw}{bc:di}(h:J5 bY env neg o.op=some (s,bc))(he:bc=([a],[])):gj ⟨P,N,ids⟩ o env σ s:=by
 cases an:o.op<;>rw[an]at h
 case binOp op T x y oq=>
  simp only[J5]at h;split at h
  ·cases h
  ·rename_i gW u;split at h
   ·rename_i ai;split at h
    ·rename_i aK e2 dj E fF g3 jy aT;have hu:P.underlying T=some (.slice E):=(ki.get aU.tys aT).kd.1.gT;have key:∀(gW:W),env.dx x=some gW→gW=a→∀(I:bG) (β:Nat→Value) (bn:Operand→Value),(∀z∈o.op.operands,aC I β (env.ev z) (bn z))→∃p n c,bn x=.slice (some p) n c∧bn y=.slice none 0 0:=by
      intro gW u e I β bn hop;have h1:=hop x (by simp[an,Op.operands]);rw[avz u,e]at h1;have D:=hop y (by simp[an,Op.operands]);rw[avz ai]at D;simp only[aC,bm]at D;obtain⟨p,n,c,e⟩:=cp I β _ h1;exact⟨p,n,c,e,D⟩
     split at h
     ·cases neg with
      |true=>cases h
      |false=>
       cases h;simp only[Prod.mk.injEq,List.cons.injEq,and_true]at he;refine .pure λ_ _ I β w bn _ _ hop=>?_;obtain⟨p,n,c,aK,e2⟩:=key _ u he I β bn hop;refine⟨.bool false,?_,by simp[aC,bm]⟩;simp only[execOp,an,aK,e2,Sem.run_bind,Yc,Result.andThen_ok,Lib.run_eql_slice_nil w T E (some p) n c 0 0 hu];rfl
     ·cases neg with
      |false=>cases h
      |true=>
       cases h;simp only[Prod.mk.injEq,List.cons.injEq,and_true]at he;refine .pure λ_ _ I β w bn _ _ hop=>?_;obtain⟨p,n,c,aK,e2⟩:=key _ u he I β bn hop;refine⟨.bool true,?_,by simp[aC,bm]⟩;simp only[execOp,an,aK,e2,Sem.run_bind,Yc,Result.andThen_ok,aqI w T E (some p) n c 0 0 hu];rfl
     ·cases h
    ·cases h
   ·cases h
 all_goals (simp only[J5]at h;cases h)
def Kt(aU:kJ P bY):∀{hint:Hint P} {s:dw} {bc:di},DS bY ids o env σ hint=some (s,bc)→bc=hint.exp→gj ⟨P,N,ids⟩ o env σ s
 |.EA,s,bc,h,he=>by
  simp only[DS]at h;split at h
  ·rename_i R b9 ai;cases h;exact agb aU ai
  ·split at h
   ·rename_i dh Z;cases h;exact agc aU Z
   ·cases h
 |.al d,s,bc,h,he=>by
  simp only[DS]at h;split at h
  ·rename_i dh Z;cases h;exact agd aU Z
  ·cases h
 |.to b0 a b e,s,bc,h,he=>by
  simp only[DS]at h;split at h
  ·rename_i R b9 s9 Z;cases h
   simp only[Hint.exp,Prod.mk.injEq,List.cons.injEq]at he;obtain⟨⟨h1,D⟩,aq⟩:=he;have:=Kt aU Z (Prod.ext D aq);simp only[gj]at this ⊢;rw[←e,←h1];exact this
  ·cases h
 |.ix sz xs i row cp,s,bc,h,he=>age aU cp h he
 |.lo d sz xs i off row cp,s,bc,h,he=>agf aU cp h he
 |.so d sz xs i off ca zs cp k hk,s,bc,h,he=>agh aU cp hk h he
 |.rf f vt dX r cp ah,s,bc,h,he=>agj cp ah h he
 |.ro xJ f σs dX r cp ah,s,bc,h,he=>agi cp ah h he
 |.le dB f dX r cp ah,s,bc,h,he=>agk cp ah h he
 |.pz news f dG dX r σ2 cp ah,s,bc,h,he=>agl cp ah h he
 |.dl dB news f dX r σ2 cp ah B8,s,bc,h,he=>agm cp ah B8 h he
 |.gs B5 ex f cp,s,bc,h,he=>cp o N ids env σ s bc h he
 |.ap d2 sz bytes xs bF zs cp,s,bc,h,he=>afH aU cp h he
 |.sl sz xs a b zs cp,s,bc,h,he=>afJ aU cp h he
 |.ws d2 sz xs a zs cp,s,bc,h,he=>afI aU cp h he
 |.qr n cp,s,bc,h,he=>afK cp h he
 |.sh n cp,s,bc,h,he=>afL cp h he
 |.is k6 n b cp,s,bc,h,he=>aeM aU cp h he
 |.lk E k bL n a b cp,s,bc,h,he=>afM aU cp h he
 |.rZ k bL n v nw cp,s,bc,h,he=>afN aU cp h he
 |.lm k bL n cp,s,bc,h,he=>afO aU cp h he
 |.OV neg T a b r cp,s,bc,h,he=>afP cp h he
 |.Gx neg a cp,s,bc,h,he=>afT aU cp h he
 |.s3 sz xs a b zs cp,s,bc,h,he=>afS aU cp h he
 |.pu T be a r cp,s,bc,h,he=>afQ cp h he
 |.pb op T a b r cp,s,bc,h,he=>afR cp h he
end
end
section
inductive pT where
 |cT (dB:dI)
 |ad (t d T sz:Nat)
 |ac (d0 d T sz i:Nat)
 |kz (a b:Nat)
 |sc (d0:Nat) (kp:dI)
 |rn (a b:Nat)
 |wi (d:Nat)
def yK(ids:dI)(env:au)(σ:ag):pT→Option (au×ag)
 |.cT dB=>some (env,σ.freeze dB)
 |.ad t d T sz=>match env.find t with
  |some .c6=>bif (σ.get d).isNone&&!ids.contains d&&env.clean (Nat.beq d)&&σ.clean (Nat.beq d)then some ((t,.own d)::env,(d,.slice T sz [] 0 false)::σ)else none
  |_=>none
 |.ac d0 d T sz i=>match σ.get d0 with
  |some (.cells bp cs)=>(match cs.drop i with
   |.c6::post=>bif !Nat.beq d0 d&&!ids.contains d&&env.clean (Nat.beq d)&&σ.clean (Nat.beq d)then some (env,(d,.slice T sz [] 0 false)::σ.set d0 (.cells bp (cs.take i++.own d::post)))else none
   |_=>none)
  |_=>none
 |.kz a b=>bif DI (swp a b) (swp a b) ids env σ then some (env.dr (swp a b),σ.dr (swp a b))else none
 |.rn a b=>bif DI (λd=>bif Nat.beq d a then b else d) (λd=>bif Nat.beq d b then a else d) ids env σ then some (env.dr (λd=>bif Nat.beq d a then b else d),σ.dr (λd=>bif Nat.beq d a then b else d))else none
 |.sc d0 kp=>match σ.get d0 with
  |some (.cells bp cs)=>(match u4 kp σ cs with|none=>none|some pr=>some (env,σ.set d0 (.cells bp pr)))
  |_=>none
 |.wi d=>match σ.get d with
  |some (.slice T sz xs _ _)=>some (env,ag.set d (.win T sz xs) (σ.freeze [d]))
  |_=>none
def Bo(ids:dI):List pT→au→ag→Option (au×ag)
 |[],env,σ=>some (env,σ)
 |m::r,env,σ=>match yK ids env σ m with
  |none=>none
  |some (e,s)=>Bo ids r e s
variable {G:cR}
def afU{env ek:au}{σ σ2:ag}{m:pT}(h:yK G.ids env σ m=some (ek,σ2)):cB G env σ ek σ2:=by
 cases m with
 |cT dB=>cases h;exact cB.freeze G env σ dB
 |ad t d T sz=>
  simp only[yK]at h;split at h
  ·rename_i aX;generalize U:((σ.get d).isNone&&_&&_&&_)=eU at h;cases eU with
   |false=>cases h
   |true=>
    cases h;simp only[Bool.and_eq_true,Bool.not_eq_true',Option.isNone_iff_eq_none]at U;exact axB t d T sz (avV aX) U.1.1.1 U.1.1.2 U.1.2 U.2
  ·cases h
 |ac d0 d T sz i=>
  simp only[yK]at h;split at h
  ·rename_i bp cs bJ;split at h
   ·rename_i post aF;generalize U:(!Nat.beq d0 d&&_&&_&&_)=eU at h;cases eU with
    |false=>cases h
    |true=>
     cases h;simp only[Bool.and_eq_true,Bool.not_eq_true']at U;exact axy d0 d T sz bp (cs.take i) post (by rw[bJ,←aF,take_append_drop]) U.1.1.1 U.1.1.2 U.1.2 U.2
   ·cases h
  ·cases h
 |kz a b=>
  simp only[yK]at h;cases U:DI (swp a b) (swp a b) G.ids env σ with
  |false=>rw[U]at h;cases h
  |true=>rw[U]at h;cases h;exact cB.dr _ _ U
 |rn a b=>
  simp only[yK]at h;generalize U:DI _ _ _ _ _=eU at h;cases eU with
  |false=>cases h
  |true=>cases h;exact cB.dr _ _ U
 |wi d=>
  simp only[yK]at h;split at h
  ·rename_i T sz xs k cT af;cases h;exact(cB.freeze G env σ [d]).trans (cB.win (by rw[avP,af];simp only[Option.map_some,List.mem_singleton,if_true,cE.wP]) rfl)
  ·cases h
 |sc d0 kp=>
  simp only[yK]at h;split at h
  ·rename_i bp cs bJ;split at h
   ·cases h
   ·rename_i pr Z;cases h;refine λcx I β a w av b5=>⟨I,β,?_,b5⟩;have jh:=AP Z;refine{av with c4:=λd o af=>?_,ee:=λd dO af eB cA b=>?_}
    ·rw[avE]at af;split at af
     ·rename_i Nt;subst Nt;rw[bJ]at af;simp only[Option.map_some,Option.some.injEq]at af;subst af;have:=av.c4 d _ bJ;simp only[bb]at this ⊢;rcases this with h1|⟨b,arr,h1,D,aq,aZ⟩
      ·exact .inl h1
      ·exact .inr ⟨b,arr,h1,D,jh.rep av _ aq,aZ⟩
     ·exact av.c4 d o af
    ·have key:∀x,((σ.set d0 (.cells bp pr)).get x).isSome→(σ.get x).isSome:=λx u=>by
      rw[avE]at u;split at u
      ·rename_i he;subst he;rw[bJ];rfl
      ·exact u
     exact av.ee d dO (key d af) (key dO eB) cA b
  ·cases h
def GQ{G:cR}:∀{lG:List pT} {env ek:au} {σ σ2:ag},Bo G.ids lG env σ=some (ek,σ2)→cB G env σ ek σ2
 |[],env,_,σ,_,h=>by cases h;exact cB.refl G env σ
 |m::r,env,ek,σ,σ2,h=>by
  simp only[Bo]at h;split at h
  ·cases h
  ·rename_i e s hm;exact(afU hm).trans (GQ h)
def DT(sl:dI)(kp:dI)(σ:ag)(env:au):dI→Option au
 |[]=>some []
 |k::r=>match env.find k with
  |none=>none
  |some a=>match(bif sl.any (Nat.beq k)then kj kp σ a else some a)with
   |none=>none
   |some b=>match DT sl kp σ env r with
    |none=>none
    |some l=>some ((k,b)::l)
def Ku{sl:dI}{kp:dI}{σ:ag}{env:au}:∀{ks:dI} {ek:au},DT sl kp σ env ks=some ek→Dj σ env ek
 |[],ek,h=>by cases h;trivial
 |k::r,ek,h=>by
  simp only[DT]at h;split at h
  ·cases h
  ·rename_i a aA;split at h
   ·cases h
   ·rename_i b U;split at h
    ·cases h
    ·rename_i l aJ;cases h;refine⟨?_,Ku aJ⟩;rw[avV aA];cases Z:sl.any (Nat.beq k)with
     |false=>rw[Z]at U;cases U;exact .refl _
     |true=>rw[Z]at U;exact u0 U
def DU(ids:dI)(lG:List pT)(sl:dI)(ks dB:dI)(env:au)(σ:ag):Option (au×ag):=match Bo ids lG env σ with
 |none=>none
 |some (e,s)=>match DT sl dB s e ks with
  |none=>none
  |some e2=>match s.at dB with
   |none=>none
   |some eu=>some (e2,eu)
def Rq{lG:List pT}{sl:dI}{ks dB:dI}{env ek:au}{σ σ2:ag}(h:DU G.ids lG sl ks dB env σ=some (ek,σ2)):cB G env σ ek σ2:=by
 simp only[DU]at h;split at h
 ·cases h
 ·rename_i e s hm;split at h
  ·cases h
  ·rename_i e2 hk;split at h
   ·cases h
   ·rename_i eu Z;cases h;exact(GQ hm).trans (awt (Ku hk) (avU Z).1)
abbrev s6(e:au):dI:=e.map (·.1)
def cB.go{env ek:au}{σ σ2:ag}(lG:List pT)(sl:dI)(h:DU G.ids lG sl (s6 ek) σ2.ids env σ=some (ek,σ2)):cB G env σ ek σ2:=Rq h
def Hf(ops:mg)(o:Oper)(env:au):j9:=match o.guard with
 |none=>some true
 |some (j,want)=>match ops[j]? with
  |none=>none
  |some eN=>match eN.dst with
   |none=>none
   |some hF=>match env.find hF with
    |some (.bool true)=>some want
    |some (.bool false)=>some (!want)
    |some .undef=>some false
    |_=>none
variable {o:Oper}{ops:mg}
def KC{env:au}(h:Hf ops o env=some true):j2 ops o env:=by
 unfold Hf at h;split at h
 ·exact j2.n ‹_›
 ·rename_i j want bw;split at h
  ·cases h
  ·rename_i eN aY;split at h
   ·cases h
   ·rename_i hF af;split at h
    ·rename_i he;cases h;exact axU bw aY af (avV he) rfl
    ·rename_i he;simp only[Option.some.injEq,Bool.not_eq_true']at h;subst h;exact axU bw aY af (avV he) rfl
    ·cases h
    ·cases h
def SN{env:au}(h:Hf ops o env=some false):ny ops o env:=by
 unfold Hf at h;split at h
 ·cases h
 ·rename_i j want bw;split at h
  ·cases h
  ·rename_i eN aY;split at h
   ·cases h
   ·rename_i hF af;split at h
    ·rename_i he;cases h;exact axV bw aY af (avV he) rfl
    ·rename_i he;simp only[Option.some.injEq,Bool.not_eq_false']at h;subst h;exact axV bw aY af (avV he) rfl
    ·rename_i he;exact ny.undef bw aY af (avV he)
    ·cases h
def uA{P:Program}(bY:hI)(ids:dI)(ops:mg)(s:oo):List (Nat×Hint P)→List (Nat×dI)→au→ag→Option (au×ag×List di)
 |[],_,env,σ=>some (env,σ,[])
 |(i,h)::r,log,env,σ=>match ops[i]? with
  |none=>none
  |some o=>match Hf ops o env with
   |none=>none
   |some false=>(match uA bY ids ops s r (bif q3 s i then(i,[])::log else log) (env.put o.dst .undef) σ with
    |none=>none
    |some (e,dh,oF)=>some (e,dh,([],[])::oF))
   |some true=>match DS bY ids o env σ h with
    |none=>none
    |some (.y R b9,bc)=>bif !q3 s i||L7 σ R then(match uA bY ids ops s r (bif q3 s i then(i,R)::log else log) (env.put o.dst b9) σ with
     |none=>none
     |some (e,dh,oF)=>some (e,dh,bc::oF))else none
    |some (.v d s9 b9,bc)=>bif q3 s i&&env.clean [d].contains&&σ.clean [d].contains&&Vw s9 then(match uA bY ids ops s r ((i,[d])::log) (env.put o.dst b9) ((d,s9)::σ)with
     |none=>none
     |some (e,dh,oF)=>some (e,dh,bc::oF))else none
    |some (.e M news b9 aH,bc)=>bif xb s i&&(!s.fR||u5 s i M log)&&env.clean news.contains&&news.all (λd=>(σ.get d).isNone)then(match uA bY ids ops s r log (env.put o.dst b9) aH with
     |none=>none
     |some (e,dh,oF)=>some (e,dh,bc::oF))else none
def Tx{s:oo}{i:Nat}(h:q3 s i=false):xb s i=true:=by
 unfold q3 at h;unfold xb
 cases af:s.fR<;>simp_all
def yO{P:Program}{bY:hI}{N:Nat}{ids:dI}{ops:mg}{s:oo}{K:au→ag→Prop}(aU:kJ P bY):∀{gm:List (Nat×Hint P)} {log:List (Nat×dI)} {env Bl:au} {σ tE:ag} {oF:List di},
  uA bY ids ops s gm log env σ=some (Bl,tE,oF)→oF=gm.map (λp=>p.2.exp)→K Bl tE→h4 ⟨P,N,ids⟩ ops s log (gm.map (·.1)) env σ K
 |[],log,env,Bl,σ,tE,oF,h,_,k=>by cases h;exact C.nil k
 |(i,hi)::r,log,env,Bl,σ,tE,oF,h,he,k=>by
  simp only[uA]at h;split at h
  ·cases h
  ·rename_i o an;split at h
   ·cases h
   ·rename_i av;split at h
    ·cases h
    ·rename_i e dh Mz aI;cases h;simp only[map_cons,List.cons.injEq]at he ⊢;cases aF:q3 s i with
     |true=>rw[aF]at aI;exact C.skip an (SN av) aF (yO aU aI he.2 k)
     |false=>rw[aF]at aI;exact ax1 an (SN av) (Tx aF) (yO aU aI he.2 k)
   ·rename_i av;split at h
    ·cases h
    ·rename_i R b9 bc Z;generalize U:(!q3 s i||_)=eU at h;cases eU with
     |false=>cases h
     |true=>
      simp only[cond_true]at h;split at h
      ·cases h
      ·rename_i e dh Mz aI;cases h;simp only[map_cons,List.cons.injEq]at he ⊢;have hZ:=Kt (N:=N) aU Z he.1;cases aF:q3 s i with
       |true=>
        rw[aF]at aI U;exact C.y an (KC av) aF (by simpa using U) hZ (yO aU aI he.2 k)
       |false=>
        rw[aF]at aI;exact C.zK an (KC av) (Tx aF) hZ (yO aU aI he.2 k)
    ·rename_i d s9 b9 bc Z;generalize U:(q3 s i&&_&&_&&_)=eU at h;cases eU with
     |false=>cases h
     |true=>
      simp only[cond_true]at h;simp only[Bool.and_eq_true]at U;split at h
      ·cases h
      ·rename_i e dh Mz aI;cases h;simp only[map_cons,List.cons.injEq]at he ⊢;have hZ:=Kt (N:=N) aU Z he.1;exact C.v an (KC av) U.1.1.1 hZ.1 U.1.1.2 U.1.2 U.2 hZ.2 (yO aU aI he.2 k)
    ·rename_i M news b9 aH bc Z;generalize U:(xb s i&&_&&_&&_)=eU at h;cases eU with
     |false=>cases h
     |true=>
      simp only[cond_true]at h;simp only[Bool.and_eq_true]at U;split at h
      ·cases h
      ·rename_i e dh Mz aI;cases h;simp only[map_cons,List.cons.injEq]at he ⊢;have hZ:=Kt (N:=N) aU Z he.1;refine C.e an (KC av) U.1.1.1 hZ.1 U.1.1.2 U.1.2 ?_ (λa eu b0=>?_)
       ·rw[List.all_eq_true];intro d af;rw[Bool.and_eq_true];exact⟨List.all_eq_true.1 hZ.2 d af,List.all_eq_true.1 U.2 d af⟩
       ·obtain⟨rfl,rfl⟩:=b0;exact yO aU aI he.2 k
def VC(l:dI)(n:Nat):dI:=bif l.any (Nat.beq n)then l else n::l
def apd(ops:List Oper):su:=
 (ops.foldl (λ(T:su) o=>(o.after.toList.foldl (λw e=>bif Region.binds .any e then(T.getD (T.length-1-e.on) []).foldl VC (VC w e.on)else w) [])::T) []).reverse
def Hint.B5{P:Program}:Hint P→Bool
 |.pz ..|.dl ..|.ap ..=>true
 |.gs e _ _ _=>e
 |_=>false
def aiM:Op→Bool
 |.assign _|.store ..|.mapUpdate ..|.insert ..|.entryStore ..|.makeSlice ..=>true
 |_=>false
def hintOf{P:Program}(Z:List (Nat×Hint P))(i:Nat):Hint P:=match Z with
 |[]=>.EA
 |(k,h)::r=>bif Nat.beq k i then h else hintOf r i
def Mg{P:Program}(Z:List (Nat×Hint P)):Nat→List Oper→dI
 |_,[]=>[]
 |i,o::r=>bif aiM o.op||(hintOf Z i).B5 then i::Mg Z (i+1) r else Mg Z (i+1) r
def LU(T:su)(es left:dI):dI→j4→j4
 |[],f=>f
 |i::r,f=>bif (T.getD i []).any (λj=>left.any (Nat.beq j))then LU T es left r f
   else bif es.any (Nat.beq i)then LU T es left r (match f with|none=>some i|some x=>some x)else some i
def Ty(T:su)(es:dI):Nat→dI→dI
 |0,_=>[]
 |n+1,left=>match LU T es left left none with
  |none=>[]
  |some i=>i::Ty T es n (left.filter λj=>!Nat.beq i j)
def mq{P:Program}(ops:mg)(fR:Bool)(Z:List (Nat×Hint P)):oo×dI:=
 bif fR then
  let T:=apd ops.toList
  let es:=Mg Z 0 ops.toList
  (⟨true,T,es⟩,Ty T es ops.size (List.range ops.size))
 else(⟨false,[],[]⟩,List.range ops.size)
def JG(N:Nat)(ops:mg)(fR:Bool)(s:oo)(l:dI):Bool:=bif fR then s.fR&&HC N ops s l else !s.fR&&s.T.isEmpty&&s.es.isEmpty&&xD N ops
def xW{P:Program}(bY:hI)(N:Nat)(ids:dI)(ops:mg)(fR:Bool)(s:oo)(l:dI)(lG:List pT)(Z:List (Nat×Hint P))(ks dB:dI)(env:au)(σ:ag):Option (au×ag×List di):=
 bif JG N ops fR s l then
  (match Bo ids lG env σ with
  |none=>none
  |some (l0,k6)=>match uA bY ids ops s (l.map λi=>(i,hintOf Z i)) [] l0 k6 with
   |none=>none
   |some (aK,dV,oF)=>match DT [] dB dV aK ks with
    |none=>none
    |some e2=>match dV.at dB with
     |none=>none
     |some eu=>some (e2,eu,oF))
 else none
section code
variable {P:Program}{N:Nat}{ids:dI}{bY:hI}{env:au}{σ:ag}{Q:Exit→au→ag→Prop}{x y c:Code}
def A.R(aU:kJ P bY){id:Nat}{ops:mg}{fR:Bool}(lG:List pT)(Z:List (Nat×Hint P))(ek:au)(σ2:ag)
  (h:xW bY N ids ops fR (mq ops fR Z).1 (mq ops fR Z).2 lG Z (s6 ek) σ2.ids env σ=some (ek,σ2,(mq ops fR Z).2.map λi=>(hintOf Z i).exp)) (k:Q .normal ek σ2):aP ⟨P,N,ids⟩ (.region id ops fR) Q env σ:=by
 generalize jh:mq ops fR Z=sl at h;obtain⟨s,l⟩:=sl;simp only[xW]at h;cases kI:JG N ops fR s l with
 |false=>rw[kI]at h;cases h
 |true=>
  rw[kI]at h;simp only[cond_true]at h;split at h
  ·cases h
  ·rename_i l0 k6 hm;split at h
   ·cases h
   ·rename_i aK dV oF aI;split at h
    ·cases h
    ·rename_i e2 hk;split at h
     ·cases h
     ·rename_i eu eg;simp only[Option.some.injEq,Prod.mk.injEq]at h;obtain⟨rfl,rfl,an⟩:=h;refine avF (GQ hm) ?_
      have ah:∀K:au→ag→Prop,K aK dV→h4 ⟨P,N,ids⟩ ops s [] l l0 k6 K:=λK g4=>by
       have:=yO (N:=N) (K:=K) aU aI (by rw[an,List.map_map];rfl) g4;rw[List.map_map,show((λx:Nat×Hint P=>x.1)∘λi=>(i,hintOf Z i))=λi=>i from rfl,List.map_id']at this;exact this
      refine awc ?_;have VD:∃ek σ2,cB ⟨P,N,ids⟩ aK dV ek σ2∧Q .normal ek σ2:=⟨e2,eu,awt (Ku hk) (avU eg).1,k⟩;cases fR with
      |false=>
       simp only[JG,cond_false,Bool.and_eq_true,Bool.not_eq_true',List.isEmpty_iff]at kI;have mU:s=⟨false,[],[]⟩:=by
        obtain⟨a,b,c⟩:=s;simp only at kI;obtain⟨⟨⟨h1,D⟩,aq⟩,aZ⟩:=kI;subst h1 D aq;rfl
       have aJ:l=List.range ops.size:=by
        have:=congrArg Prod.snd jh;simpa [mq]using this.symm
       subst mU aJ;exact A.region kI.2 (ah _ VD)
      |true=>
       simp only[JG,cond_true,Bool.and_eq_true]at kI;obtain⟨as9,T,es⟩:=s;obtain⟨h1,D⟩:=kI;simp only at h1;subst h1;exact A.any T es l aU.mix D (ah _ VD)
def avB(aU:kJ P bY){id:Nat}{ops:mg}{fR:Bool}(lG:List pT)(Z:List (Nat×Hint P))(ek:au)(σ2:ag)
  (h:xW bY N ids ops fR (mq ops fR Z).1 (mq ops fR Z).2 lG Z (s6 ek) σ2.ids env σ=some (ek,σ2,(mq ops fR Z).2.map λi=>(hintOf Z i).exp)) (k:aP ⟨P,N,ids⟩ y Q ek σ2):aP ⟨P,N,ids⟩ (.seq (.region id ops fR) y) Q env σ:=
 A.seq (A.R aU lG Z ek σ2 h k)
def avH{G:cR}{o:Operand}{p:Bool}(ah:env.dx o=some (.bool p))(aF:p=true)(k:aP G x Q env σ):aP G (.cond o x y) Q env σ:=A.cond (avz ah) (λ_=>k) (λbA=>by rw[aF]at bA;cases bA)
def avG{G:cR}{o:Operand}{p:Bool}(ah:env.dx o=some (.bool p))(aF:p=false)(k:aP G y Q env σ):aP G (.cond o x y) Q env σ:=A.cond (avz ah) (λb5=>by rw[aF]at b5;cases b5) (λ_=>k)
def A.J{G:cR}{α bn:Type}{J:α→Option bn}{r:bn}(gr:α→au)(gB:α→ag)
  (h:aP G x (um (λg0 aH=>∃g,J g=some r∧cB G g0 aH (gr g) (gB g)) Q) env σ) (k:∀g,J g=some r→aP G y Q (gr g) (gB g)):aP G (.seq x y) Q env σ:=by
 refine A.seq (h.mono ?_);intro e g0 aH bP;cases e with
 |normal=>
  obtain⟨g,bw,av⟩:=bP;exact avF av (k g bw)
 |_=>exact bP
def avD{G:cR}{α S bn:Type}{l:List α}{B:Int→α→(S→Option bn)→S→Option bn}{K:S→Option bn}{k6:S}{gC:Nat}{r:bn}(hm:eE (l.drop gC) gC B K k6=some r)(gr:Nat→S→au)(gB:Nat→S→ag)
  (av:cB G env σ (gr gC k6) (gB gC k6))
  (fM:∀(j:Nat) (x:α) (b4:S→Option bn) (s:S),gC≤j→l[j]?=some x→B j x b4 s=some r→aP G c (um (λg0 aH=>∃dh,b4 dh=some r∧cB G g0 aH (gr (j+1) dh) (gB (j+1) dh)) Q) (gr j s) (gB j s))
  (qA:∀(j:Nat) (s:S),gC≤j→l.length≤j→K s=some r→aP G c (um (λ_ _=>False) Q) (gr j s) (gB j s)):aP G (.loop c) Q env σ:=by
 refine A.loop (α:=Nat×S) (λg=>gr g.1 g.2) (λg=>gB g.1 g.2) (λg=>gC≤g.1∧eE (l.drop g.1) g.1 B K g.2=some r) (λg=>l.length-g.1) (gC,k6) ⟨Nat.le_refl _,hm⟩ av ?_;rintro⟨j,s⟩ ⟨aY,bA⟩;simp only at aY bA ⊢;by_cases bS:j<l.length
 ·have u:l[j]?=some l[j]:=List.getElem?_eq_getElem bS;rw[drop_eq_getElem_cons bS]at bA;refine(fM j l[j] (eE (l.drop (j+1)) (j+1) B K) s aY u bA).mono ?_;intro e g0 aH bP;cases e with
  |normal=>
   obtain⟨dh,h1,D⟩:=bP;exact⟨(j+1,dh),⟨by omega,h1⟩,by show l.length-(j+1)<l.length-j;omega,D⟩
  |_=>exact bP
 ·rw[drop_eq_nil_of_le (by omega)]at bA;refine(qA j s aY (by omega) bA).mono ?_;intro e g0 aH bP;cases e with
  |normal=>exact bP.elim
  |_=>exact bP
def av6{G:cR}{S bn:Type}{CP:Nat}{oc hi:Int}{B:Int→(S→Option bn)→S→Option bn}{K:Int→S→Option bn}{k6:S}{r:bn}(hm:nB CP oc B K k6=some r)(aX:CP=(hi-oc).toNat)(gr:Int→S→au)(gB:Int→S→ag)
  (av:cB G env σ (gr oc k6) (gB oc k6))
  (fM:∀(i:Int) (b4:S→Option bn) (s:S),oc≤i→i<hi→B i b4 s=some r→aP G c (um (λg0 aH=>∃dh,b4 dh=some r∧cB G g0 aH (gr (i+1) dh) (gB (i+1) dh)) Q) (gr i s) (gB i s))
  (qA:∀(i:Int) (s:S),oc≤i→hi≤i→K i s=some r→aP G c (um (λ_ _=>False) Q) (gr i s) (gB i s)):aP G (.loop c) Q env σ:=by
 refine A.loop (α:=Nat×Int×S) (λg=>gr g.2.1 g.2.2) (λg=>gB g.2.1 g.2.2) (λg=>oc≤g.2.1∧g.1=(hi-g.2.1).toNat∧nB g.1 g.2.1 B K g.2.2=some r) (λg=>g.1) (CP,oc,k6) ⟨Int.le_refl _,aX,hm⟩ av ?_;rintro⟨n,i,s⟩ ⟨aY,aX,bA⟩;simp only at aY aX bA ⊢;cases n with
 |zero=>
  refine(qA i s aY (by omega) bA).mono ?_;intro e g0 aH bP;cases e with
  |normal=>exact bP.elim
  |_=>exact bP
 |succ n=>
  refine(fM i (nB n (i+1) B K) s aY (by omega) bA).mono ?_;intro e g0 aH bP;cases e with
  |normal=>
   obtain⟨dh,h1,D⟩:=bP;exact⟨(n,i+1,dh),⟨by show oc≤i+1;omega,by show n=(hi-(i+1)).toNat;omega,h1⟩,by show n<n+1;omega,D⟩
  |_=>exact bP
def avN{G:cR}{S bn:Type}{F:(S→Option bn)→S→Option bn}{CP:Nat}{k6:S}{r:bn}(hm:iter F CP k6=some r)(gr:S→au)(gB:S→ag)(av:cB G env σ (gr k6) (gB k6))
  (fM:∀(b4:S→Option bn) (s:S),F b4 s=some r→aP G c (um (λg0 aH=>∃dh,b4 dh=some r∧cB G g0 aH (gr dh) (gB dh)) Q) (gr s) (gB s)):aP G (.loop c) Q env σ:=by
 refine A.loop (α:=Nat×S) (λg=>gr g.2) (λg=>gB g.2) (λg=>iter F g.1 g.2=some r) (λg=>g.1) (CP,k6) hm av ?_;rintro⟨n,s⟩ bA;cases n with
 |zero=>cases bA
 |succ n=>
  refine(fM (iter F n) s bA).mono ?_;intro e g0 aH bP;cases e with
  |normal=>
   obtain⟨dh,h1,D⟩:=bP;exact⟨(n,dh),h1,by show n<n+1;omega,D⟩
  |_=>exact bP
def Zi{I:bG}{b:Nat}:∀{e:List W} {o:Nat} {x:W},l1 I b e o→x∈e→∃aR,bm I x aR
 |[],_,_,_,h=>by simp at h
 |y::r,o,x,aI,h=>by
  simp only[l1]at aI;rcases mem_cons.1 h with rfl|h
  ·obtain⟨aR,_,D⟩:=aI.1;exact⟨aR,D⟩
  ·exact Zi aI.2 h
def Y6{I:bG}{b:Nat}:∀{xs:List (List W)} {o:Nat} {e:List W},kf I b xs o→e∈xs→∃o,l1 I b e o
 |[],_,_,_,h=>by simp at h
 |y::r,o,x,aI,h=>by
  simp only[kf]at aI;rcases mem_cons.1 h with rfl|h
  ·exact⟨o,aI.1⟩
  ·exact Y6 aI.2 h
def QM{I:bG}:∀{e:List W} {vs:dQ} {x:W},ds I e vs→x∈e→∃aR,bm I x aR
 |[],_,_,_,h=>by simp at h
 |y::r,vs,x,aI,h=>by
  simp only[ds]at aI;obtain⟨aR,us,_,h1,D⟩:=aI;rcases mem_cons.1 h with rfl|h
  ·exact⟨aR,h1⟩
  ·exact QM D h
def awr{I:bG}:∀(n:Nat) (f:Bool) (xs:List (List W)) (v:Value),bm I (.bf f xs) v→K0 n xs
 |0,f,xs,v,h=>by
  simp only[bm]at h;obtain⟨a,c,_,h1,D,_⟩:=h;exact Nat.le_trans h1 D
 |n+1,f,xs,v,h=>by
  simp only[bm]at h;obtain⟨a,c,_,h1,D,_,aq⟩:=h;refine⟨Nat.le_trans h1 D,λe he g bF ai=>?_⟩;rcases aq with rfl|⟨b,o,_,aZ⟩
  ·simp at he
  ·obtain⟨hT,bV⟩:=Y6 aZ he;obtain⟨aR,dU⟩:=Zi bV ai;exact awr n g bF aR dU
def awG{I:bG}{β:Nat→Value}{f:Bool}{xs:List (List W)}{v:Value}(h:aC I β (.bf f xs) v):pn xs:=λn=>awr n f xs v (by simpa only[aC]using h)
def aya{I:bG}{β:Nat→Value}{f:Bool}{xs:List (List W)}:∀{cs:List W} {vs:dQ} {i:Nat},b8 I β cs vs→cs[i]?=some (.bf f xs)→pn xs:=λh hi=>by
 obtain⟨v,_,D⟩:=Kl h hi;exact awG D
def afV{G:cR}{cx:fO}{I:bG}{β:Nat→Value}{σ:ag}{w:World}(av:cz G cx I β σ w){d:Nat}{T sz k:Nat}{cT:Bool}{xs:List (List W)}(af:σ.get d=some (.slice T sz xs k cT)){v:Value}(aa:aC I β (.own d) v):pn xs:=by
 obtain⟨a,c,_,ak,ax⟩:=Zd av af aa;intro n;cases n with
 |zero=>exact Nat.le_trans ak ax
 |succ n=>
  refine⟨Nat.le_trans ak ax,λe he g bF ai=>?_⟩;simp only[aC]at aa;have:=av.c4 d _ af;simp only[bb]at this;rcases this with h1|⟨_,rfl,_⟩|⟨b,aV,arr,_,_,_,_,_,dU,_⟩
  ·rw[aa.1,h1]at aa;simp[i1]at aa
  ·simp at he
  ·obtain⟨aR,eR⟩:=QM dU (List.mem_flatten.2 ⟨e,he,ai⟩);exact awr n g bF aR eR
def avJ{G:cR}{f:Bool}{xs:List (List W)}(t:Nat)(h:env.find t=some (.bf f xs))(k:pn xs→aP G c Q env σ):aP G c Q env σ:=by
 refine avZ λcx a w aI=>?_;obtain⟨I,β,h1,D,aq,aZ⟩:=aI;have aa:=D t;rw[avV h]at aa;exact(k (awG aa)).use cx a w ⟨I,β,h1,D,aq,aZ⟩
def awb{G:cR}{T sz k:Nat}{cT:Bool}{xs:List (List W)}{d:Nat}(t:Nat)(b5:env.find t=some (.own d))(h:σ.get d=some (.slice T sz xs k cT))(k:pn xs→aP G c Q env σ):aP G c Q env σ:=by
 refine avZ λcx a w aI=>?_;obtain⟨I,β,h1,D,aq,aZ⟩:=aI;have aa:=D t;rw[avV b5]at aa;exact(k (afV h1 h aa)).use cx a w ⟨I,β,h1,D,aq,aZ⟩
def avW{G:cR}{T d:Nat}{f:Bool}{cs:List W}{xs:List (List W)}(t i:Nat)(b5:env.find t=some (.ptr d 0))(h:σ.get d=some (.cells T cs))(hi:cs[i]?=some (.bf f xs))(k:pn xs→aP G c Q env σ):aP G c Q env σ:=by
 refine avZ λcx a w aI=>?_;obtain⟨I,β,h1,D,aq,aZ⟩:=aI;have aa:=D t;rw[avV b5]at aa;simp only[aC]at aa;obtain⟨b,U,_⟩:=aa;obtain⟨arr,_,_,jv,_⟩:=cz.box h1 h U;exact(k (aya jv hi)).use cx a w ⟨I,β,h1,D,aq,aZ⟩
def avM{G:cR}(ek:au)(σ2:ag)(h:aP G y Q ek σ2→aP G (.seq x y) Q env σ)(k:aP G y Q ek σ2):aP G (.seq x y) Q env σ:=h k
end code
def j6(b:Bool):b=true∨b=false:=by cases b<;>simp
variable {p q:Bool}
def mE(h:p=true):W.bool q=.bool (p&&q):=by rw[h];rfl
def pa(h:p=false):W.bool false=.bool (p&&q):=by rw[h];rfl
def tb(h:p=true):W.bool true=.bool (p||q):=by rw[h];rfl
def mc(h:p=false):W.bool q=.bool (p||q):=by rw[h];rfl
def cK(h:p=q):W.bool p=.bool q:=by rw[h]
section
variable {P:Program}
def aN{a b:W}(e:a=b):Hint P:=.to .EA a b e
def c8{sz:Nat}{xs:List (List W)}{i:Int}{row:List W}(cp:xZ sz xs i row):Hint P:=.ix sz xs i row cp
def hf(d off:Nat){sz:Nat}{xs:List (List W)}{i:Int}{row:List W}(cp:xZ sz xs i row):Hint P:=.lo d sz xs i off row cp
def o0(d:Nat){sz:Nat}{xs:List (List W)}{i:Int}{off:Nat}{ca:List W}{zs:List (List W)}(cp:Hp sz xs i off ca zs){k:Nat}(hk:(k:Int)≤i):Hint P:=.so d sz xs i off ca zs cp k hk
def ch{f:FuncId}{σs:ag}{dX:List W}{r:W}(cp:dR P f σs dX r)(ah:c0 P f):Hint P:=.ro 0 f σs dX r cp ah
def VE(xJ:Nat){f:FuncId}{σs:ag}{dX:List W}{r:W}(cp:dR P f σs dX r)(ah:c0 P f):Hint P:=.ro xJ f σs dX r cp ah
def oZ{f:FuncId}{vt dX:List W}{r:W}(cp:dR P f [] (dX++vt) r)(ah:c0 P f):Hint P:=.rf f vt dX r cp ah
def hle(dB:dI){f:FuncId}{dX:List W}{r:W}(cp:dR P f [] dX r)(ah:c0 P f):Hint P:=.le dB f dX r cp ah
def wW{E:Nat}{k:IntKind}{bL:List (W×W)}{n:Int}{a:W}{b:Bool}(cp:Hj P E k bL n a b):Hint P:=.lk E k bL n a b cp
def wX{k:IntKind}{bL:List (W×W)}{n:Int}{v:W}{nw:List (W×W)}(cp:D5 k bL n v nw):Hint P:=.rZ k bL n v nw cp
def wZ{sz:Nat}{xs zs:List (List W)}{a b:Int}(cp:vn sz xs a b zs):Hint P:=.s3 sz xs a b zs cp
def Xs{k:IntKind}{bL:List (W×W)}{n:Int}(cp:Hk k bL n):Hint P:=.lm k bL n cp
def amz(dB news:dI){f:FuncId}{dX:List W}{r:W}{σ2:ag}(cp:eT P f [] dX (λa aH=>a=r∧aH=σ2))(ah:c0 P f)(B8:y2 σ2):Hint P:=.dl dB news f dX r σ2 cp ah B8
def fq(news:dI){f:FuncId}{dG:ag}{dX:List W}{r:W}{σ2:ag}(cp:eT P f dG dX (λa aH=>a=r∧aH=σ2))(ah:c0 P f):Hint P:=.pz news f dG dX r σ2 cp ah
def l3(d2:Nat){sz bytes:Nat}{xs bF zs:List (List W)}(cp:Br sz bytes xs bF zs):Hint P:=.ap d2 sz bytes xs bF zs cp
def jh{sz:Nat}{xs:List (List W)}{a b:Int}{zs:List (List W)}(cp:vn sz xs a b zs):Hint P:=.sl sz xs a b zs cp
end
variable {α:Type}{l:List α}
def hv{j:Nat}{x:α}(h:l[j]?=some x):decide ((j:Int)<(l.length:Int))=true:=by
 obtain⟨h1,_⟩:=List.getElem?_eq_some_iff.1 h;exact decide_eq_true (by omega)
def ht{j:Nat}(h:l.length≤j):decide ((j:Int)<(l.length:Int))=false:=decide_eq_false (by omega)
variable {h i:Int}
def anY(b0:i<h+1):decide (i≤h)=true:=decide_eq_true (by omega)
def zP(b0:h≤i):decide (i<h)=false:=decide_eq_false (by omega)
def alR(b0:h+1≤i):decide (i≤h)=false:=decide_eq_false (by omega)
def ao0(e:kC α){m:List α}{a:Int}(h:wg l a (l.length:Int)=some m):vn e.sz (ar e l) a ((ar e l).length:Int) (ar e m):=by rw[oM];exact sl e h
def GY(P:Program)(T:Nat):List (Nat×Nat)→Nat→Prop
 |[],_=>True
 |(off,_)::r,n=>hr P T n off∧GY P T r (n+1)
def GY.get{P:Program}{T:Nat}:∀{gm:List (Nat×Nat)} {n f off sz:Nat},GY P T gm n→gm[f]?=some (off,sz)→hr P T (n+f) off
 |[],_,_,_,_,_,h=>by simp at h
 |(o,s)::r,n,0,off,sz,b0,h=>by simp at h;obtain⟨rfl,rfl⟩:=h;exact b0.1
 |(o,s)::r,n,f+1,off,sz,b0,h=>by
  have:=GY.get (f:=f) (off:=off) (sz:=sz) b0.2 (by simpa using h)
  rwa [Nat.add_right_comm,Nat.add_assoc]at this
def GH(P:Program)(T:Nat):List (Nat×Nat)→rT→Nat→Prop
 |(off,sz)::r,dW::s,n=>hl P T n off sz dW∧GH P T r s (n+1)
 |_,_,_=>True
def GH.get{P:Program}{T:Nat}:∀{gm:List (Nat×Nat)} {rD:rT} {n f off sz:Nat} {dW:Bool},GH P T gm rD n→gm[f]?=some (off,sz)→rD[f]?=some dW→hl P T (n+f) off sz dW
 |[],_,_,_,_,_,_,_,h,_=>by simp at h
 |_::_,[],_,_,_,_,_,_,_,h=>by simp at h
 |(o,s)::r,g::rD,n,0,off,sz,dW,b0,h,b3=>by simp at h b3;obtain⟨rfl,rfl⟩:=h;subst b3;exact b0.1
 |(o,s)::r,g::rD,n,f+1,off,sz,dW,b0,h,b3=>by
  have:=GH.get (f:=f) (off:=off) (sz:=sz) (dW:=dW) b0.2 (by simpa using h) (by simpa using b3)
  rwa [Nat.add_right_comm,Nat.add_assoc]at this
def n3{P:Program}{T:Nat}{zs:dQ}{gm:List (Nat×Nat)}{rD:rT}(h1:lD P T zs gm)(D:GY P T gm 0)(aq:GH P T gm rD 0):nR P T (.struct zs gm rD):=
 ⟨h1,λf off sz h=>by have:=D.get h;rwa [Nat.zero_add]at this,λf off sz dW h b3=>by have:=aq.get h b3;rwa [Nat.zero_add]at this⟩
variable {args:List W}{f:FuncId}
def axW{P:Program}{iW σ2 σ3:ag}{r r':W}(cT:dI)(h:eT P f iW args (λa aH=>a=r∧aH=σ2))(Z:kj σ3.ids (σ2.freeze cT) r=some r')(aA:(σ2.freeze cT).at σ3.ids=some σ3):
  eT P f iW args (λa aH=>a=r'∧aH=σ3):=λcx w I β vs h1 D=>Calls.mono (h cx w I β vs h1 D) λ_ _ ⟨v,he,OI,aH,bq,β',⟨ak,ax⟩,aO,aL⟩=>by
 subst ak ax;obtain⟨D2,hle,av⟩:=aL.PB cT;refine⟨v,he,r',σ3,D2,β',⟨rfl,rfl⟩,(u0 Z).rep av v (Gn hle (h5.refl β') _ _ aO),av.sub λd o af=>?_⟩;obtain⟨p,de,ew,e1⟩:=u2 σ3 d o af;rw[←ew,←e1];exact(avU aA).1.mem p de
def pl.at{P:Program}{f:FuncId}{iW σ2:ag}{args:List W}{r:W}(l:List (Nat×Nat))(h:eT P f iW args (λa aH=>a=r∧aH=σ2)):
  eT P f (iW.dr (r1 l)) (r0 (r1 l) args) (λa aH=>a=r.dr (r1 l)∧aH=σ2.dr (r1 l)):=
 (h.at l).mono λa s b0=>by
  obtain⟨a0,k6,⟨rfl,rfl⟩,h1,D⟩:=b0;exact⟨h1,D⟩
def xX(bY:hI)(env:au)(σ:ag):ResultVar→Option W
 |.tmp t=>env.find t
 |.cell a T=>match env.find a with
  |some (.ptr d 0)=>(match σ.get d with
   |some (.cells _ cs)=>(match bY.get T with
    |some i=>bif Nat.beq cs.length i.sz&&(i.dW||Nat.blt 0 i.sz)then qg i.dW i.sz cs else none
    |none=>none)
   |_=>none)
  |_=>none
def HK(bY:hI)(env:au)(σ:ag):List ResultVar→Option (List W)
 |[]=>some []
 |a::r=>match xX bY env σ a with|none=>none|some x=>match HK bY env σ r with|none=>none|some xs=>some (x::xs)
def MA(bY:hI)(env:au)(σ:ag):List ResultVar→Option W
 |[]=>some (.c5 [])
 |[a]=>xX bY env σ a
 |[a,b]=>match xX bY env σ a with|none=>none|some x=>match xX bY env σ b with|none=>none|some y=>some (.c5 [x,y])
 |[a,b,c]=>match xX bY env σ a with|none=>none|some x=>match xX bY env σ b with|none=>none|some y=>match xX bY env σ c with|none=>none|some z=>some (.c5 [x,y,z])
 |a::b::c::d::r=>match HK bY env σ (a::b::c::d::r)with|none=>none|some xs=>some (.c5 xs)
variable {a:W}
def AV{P:Program}{N:Nat}{ids:dI}{bY:hI}(aU:kJ P bY){env:au}{σ:ag}{v:ResultVar}(h:xX bY env σ v=some a):rj ⟨P,N,ids⟩ env σ v a:=by
 cases v with
 |tmp t=>exact K2.tmp h
 |cell p T=>
  simp only[xX]at h;split at h
  ·rename_i d aF;split at h
   ·rename_i be cs af;split at h
    ·rename_i i aT;generalize U:(Nat.beq cs.length i.sz&&_)=eU at h;cases eU with
     |false=>cases h
     |true=>
      simp only[cond_true]at h;rw[Bool.and_eq_true]at U;exact K2.cell (ki.get aU.tys aT).ty (avV aF) af U.1 U.2 h
    ·cases h
   ·cases h
  ·cases h
def SO{P:Program}{N:Nat}{ids:dI}{bY:hI}(aU:kJ P bY){env:au}{σ:ag}:∀{l:List ResultVar} {xs:List W},HK bY env σ l=some xs→Bm ⟨P,N,ids⟩ env σ l xs
 |[],xs,h=>by cases h;exact .nil
 |a::r,xs,h=>by
  simp only[HK]at h;split at h
  ·cases h
  ·rename_i x u;split at h
   ·cases h
   ·rename_i bF ai;cases h;exact .cons (AV aU u) (SO aU ai)
def aeN{P:Program}{N:Nat}{ids:dI}{bY:hI}(aU:kJ P bY){env:au}{σ:ag}{l:List ResultVar}(h:MA bY env σ l=some a):u7 ⟨P,N,ids⟩ env σ l a:=by
 unfold MA at h;split at h
 ·cases h;exact .zero
 ·exact .one (AV aU h)
 ·split at h
  ·cases h
  ·rename_i x u;split at h
   ·cases h
   ·rename_i y ai;cases h;exact .two (AV aU u) (AV aU ai)
 ·split at h
  ·cases h
  ·rename_i x u;split at h
   ·cases h
   ·rename_i y ai;split at h
    ·cases h
    ·rename_i z hz;cases h;exact .three (AV aU u) (AV aU ai) (AV aU hz)
 ·split at h
  ·cases h
  ·rename_i xs An;cases h;exact .more (SO aU An) (by simp)
def MB(bY:hI)(ids:dI)(lG:List pT)(dB:dI)(l:List ResultVar)(env:au)(σ:ag):Option (W×ag):=match Bo ids lG env σ with
 |none=>none
 |some (e,s)=>match MA bY e s l with
  |none=>none
  |some a=>match kj dB s a with
   |none=>none
   |some b=>match s.at dB with
    |none=>none
    |some eu=>some (b,eu)
def qc(G:cR)(fn:Func)(iA:W→ag→Prop):Exit→au→ag→Prop:=λe env σ=>∃ek σ2,cB G env σ ek σ2∧SG G fn iA e ek σ2
variable {fn:Func}
def avC{P:Program}{N:Nat}{ids:dI}{bY:hI}(aU:kJ P bY){env:au}{σ σ2:ag}{R:W}{e:Exit}(lG:List pT)(he:(match e with|.ret|.normal=>true|_=>false)=true)(h:MB bY ids lG σ2.ids fn.results.toList env σ=some (R,σ2)):
  qc ⟨P,N,ids⟩ fn (λa aH=>a=R∧aH=σ2) e env σ:=by
 simp only[MB]at h;split at h
 ·cases h
 ·rename_i aK dV hm;split at h
  ·cases h
  ·rename_i a aA;split at h
   ·cases h
   ·rename_i b U;split at h
    ·cases h
    ·rename_i eu Z;cases h;refine⟨aK,dV,GQ hm,?_⟩;have key:∃cT x r aH,u7 ⟨P,N,ids⟩ aK (dV.freeze cT) fn.results.toList x∧jJ (dV.freeze cT) x r∧(∀p∈aH,(dV.freeze cT).get p.1=some p.2)∧(r=R∧aH=σ2):=by
      refine⟨[],a,R,σ2,?_,?_,?_,rfl,rfl⟩
      ·rw[awh];exact aeN aU aA
      ·rw[awh];exact u0 U
      ·rw[awh];exact(avU Z).1.mem
     cases e<;>first|exact key|cases he
def dN{P:Program}{c:Code}{iW:ag}{iA:W→ag→Prop}(bA:P.funcs[f]?=some fn)(U:fn.body=some c)(sI:Nat.ble args.length fn.ntmps=true)
  (h:aP ⟨P,fn.ntmps,iW.ids⟩ c (qc ⟨P,fn.ntmps,iW.ids⟩ fn iA) (Di 0 args) iW):eT P f iW args iA:=
 eT.enter bA U (Nat.le_of_ble_eq_true sI) λ_=>awc h
def adY{a b:List α}(h:iP a b=some l):l=a++b:=by
 unfold iP at h;split at h<;>simp_all
def aaH{P:Program}{dD E sz:Nat}{xs bF:List (List W)}(aX:∀n c w,Calls P f #[.slice none n c] w λe w'=>e=.returned (.slice none 0 0)∧w'=w)
    (aA:xs≠[]→eT P f [] [.bf false xs] (λa aH=>a=.own dD∧aH=[(dD,.slice E sz bF 0 false)])) (U:xs=[]→eT P f [] [.k7] (λa aH=>a=.own dD∧aH=[(dD,.slice E sz bF 0 false)]))
    (Ct:xs=[]→bF=[]):eT P f [] [.bf false xs] (λa aH=>a=.own dD∧aH=[(dD,.slice E sz bF 0 false)]):=by
  intro cx w I β vs av aI;by_cases u:xs=[]
  · have ai:=Ct u
    subst u ai;simp only[b8,aC,bm]at aI;obtain⟨aR,us,rfl,⟨a,c,rfl,_,aq,_,_⟩,rfl⟩:=aI;cases a with
    |some p=>exact U rfl cx w I β _ av (by simp only[b8,aC,bm];exact⟨_,_,rfl,⟨_,_,rfl,aq⟩,rfl⟩)
    |none=>
      refine Calls.mono (aX _ _ w) ?_;rintro e w' ⟨rfl,rfl⟩;refine⟨_,rfl,.own dD,_,I,λd=>if d=dD then .slice none 0 0 else β d,⟨rfl,rfl⟩,by simp[aC,i1],?_⟩
      exact{av with
        c4:=λx o h=>by
          rw[avA]at h;split at h
          · rename_i e;subst e;injection h with h;subst h
            simp only[bb,if_true];exact .inr (.inl ⟨trivial,trivial,trivial⟩)
          · simp[ag.get]at h
        ee:=λx y u ai cA b U ic=>by
          rw[avA]at u ai;split at u
          · rename_i e;subst e
            split at ai
            · rename_i cC;exact cA cC
            · simp[ag.get]at ai
          · simp[ag.get]at u
        keep:=λd af=>by simp[ag.ids]at af}
  · exact aA u cx w I β vs av aI
def aiO(Q:Exit→au→ag→Prop):Exit→au→ag→Prop
 |.goto _,_,_=>False
 |e,env,σ=>Q e env σ
def A.scope{G:cR}{c:Code}{Q:Exit→au→ag→Prop}{env:au}{σ:ag}(h:aP G c (aiO Q) env σ):aP G (.scope c) Q env σ:=by
 refine avZ λcx a w aI=>wp_scope_straight (wp_mono (aP.use h cx a w aI) ?_);rintro e gW w' ⟨g0,aH,oz,bP⟩;cases e<;>first|exact⟨g0,aH,oz,bP⟩|exact bP.elim
def A.label{G:cR}{l:Nat}{Q:Exit→au→ag→Prop}{env:au}{σ:ag}(h:Q .normal env σ):aP G (.label l) Q env σ:=avZ λ_ _ _ aI=>wp_label ⟨env,σ,aI,h⟩
end
end
section
set_option linter.all false
open Go Go.ChangeShapes Go.WideShapes Go.ChangeAt Go.RowKit List
structure Hl(P:Program)(T:Nat){α:Type}(enc:α→List W)(n:Nat):Prop where
 cells:P.cellsOf T=n
 read:∀(H:Type) (lM:TypeId×Value→H) (w:World) (fE:Nat) (kv:Nat→Bool) (af:Bool) (fuel:Nat) (cs:dQ) (x:DataW H×List MemPlace),
  DataW.trod lM P w fE kv af fuel T cs=some x→∃a:α,ds (iK w) (enc a) cs
variable {P:Program}{T:Nat}
def adZ{k:IntKind}(h:P.underlying T=some (.int k))(ah:P.cellsOf T=1):Hl P T (λn:Int=>[.int k n]) 1:=by
 refine⟨ah,λH lM w fE kv af fuel cs x u=>?_⟩;cases fuel with
 |zero=>cases u
 |succ n=>
  unfold DataW.trod at u;rw[h]at u;split at u<;>first|(simp at u;done)|skip
  all_goals (rename_i he;cases he)
  rename_i er m;split at u
  ·rename_i hk;obtain⟨rfl,_⟩:=hk
   exact⟨m,by simp[ds,bm]⟩
  ·cases u
def Ol{α β:Type}{f:α→Option β}:∀{l:List α} {r:List β},l.mapM f=some r→r.length=l.length∧∀(i:Nat) (a:α),l[i]?=some a→∃b:β,f a=some b∧r[i]?=some b
 |[],r,h=>by simp at h;subst h;exact⟨rfl,λi a hi=>by simp at hi⟩
 |x::l,r,h=>by
  rw[mapM_cons]at h;cases u:f x with
  |none=>rw[u]at h;cases h
  |some y=>
   rw[u]at h;cases aJ:l.mapM f with
   |none=>rw[aJ]at h;cases h
   |some bF=>
    rw[aJ]at h;cases h;obtain⟨h1,D⟩:=Ol aJ;refine⟨by simp[h1],λi a hi=>?_⟩;cases i with
    |zero=>simp at hi;subst hi;exact⟨y,u,rfl⟩
    |succ i=>simpa using D i a (by simpa using hi)
def Y7{α β:Type}{p:Nat→β→Prop}:∀(n:Nat),(∀i,i<n→∃b,p i b)→∃l:List β,l.length=n∧∀i b,l[i]?=some b→p i b
 |0,_=>⟨[],rfl,λi b h=>by simp at h⟩
 |n+1,h=>by
  obtain⟨l,h1,D⟩:=Y7 (α:=α) n (λi hi=>h i (by omega));obtain⟨b,U⟩:=h n (by omega);refine⟨l++[b],by simp[h1],λi c ah=>?_⟩;by_cases hi:i<n
  ·rw[List.getElem?_append_left (by omega)]at ah;exact D i c ah
  ·have:i=n:=by
    have:=(List.getElem?_eq_some_iff.1 ah).1;simp at this;omega
   subst this;rw[List.getElem?_append_right (by omega)]at ah;simp[h1]at ah;subst ah;exact U
variable {a:Addr}
def aaI{w:World}{fE:Nat}{n:Nat}{cs:dQ}(h:w.cells? fE a n=some cs):cs.length=n∧∀i v,cs[i]?=some v→w.cell? (a.add i)=some v:=by
 unfold World.cells? at h;split at h
 ·obtain⟨h1,D⟩:=Ol h;have aJ:cs.length=n:=by simpa using h1
  refine⟨aJ,λi v aa=>?_⟩;have hi:i<n:=by rw[←aJ];exact(List.getElem?_eq_some_iff.1 aa).1
  obtain⟨b,ak,ax⟩:=D i i (by simp[hi]);rw[aa]at ax;cases ax;exact ak
 ·cases h
def YI{α:Type}{I:bG}{b sz:Nat}{enc:α→List W}:∀(l:List α) (o:Nat),(∀r,(enc r).length=sz)→(∀i a,l[i]?=some a→l1 I b (enc a) (o+i*sz))→kf I b (l.map enc) o
 |[],_,_,_=>trivial
 |x::r,o,hz,h=>by
  simp only[map_cons,kf];refine⟨by simpa using h 0 x rfl,?_⟩;rw[hz x];refine YI r (o+sz) hz λi a aA=>?_;have:=h (i+1) a (by simpa using aA)
  rwa [Nat.add_mul,Nat.one_mul,Nat.add_comm (i*sz),←Nat.add_assoc]at this
def abJ(h:a.spot=none)(i:Nat):a.add i=⟨a.block,a.off+i,none⟩:=by
 obtain⟨b,o,s⟩:=a;simp only at h;subst h;exact mx b o i
def QN{E:Nat}(h:P.underlying T=some (.slice E))(w:World)(fE:Nat)(v:Value)(aa:Value.okWide P w .any fE T v):v.cells=#[v]:=by
 simp only[Value.okWide,h,Cell.okWide,Cell.ok]at aa;cases v<;>first|rfl|(simp at aa;done)
def YE{H:Type}{enc:TypeId×Value→H}{P:Program}(aJ:laidOutB P=true){aU W':World}{kv:Nat→Bool}(U:Below aU.heap.size aU W'):∀{ts:dI} {vs:dQ} {dB:List (DataW H)} {ps:List MemPlace},(∀t∈ts,P.readableRec t=true∧t<P.types.size)→
  DataW.TrodAll enc P aU 0 (λ_=>true) true ts vs dB ps→(∀x∈ps,x.block<aU.heap.size)→(∀x∈ps,kv x.block=true)→DataW.TrodAll enc P W' 0 kv true ts vs dB ps
 |[],vs,dB,ps,_,h,_,_=>by cases vs<;>cases dB<;>exact h
 |t::ts,vs,dB,ps,b5,h,bS,Z=>by
  cases vs with
  |nil=>cases dB<;>exact h.elim
  |cons v vs=>
   cases dB with
   |nil=>exact h.elim
   |cons d dB=>
    obtain⟨p,q,ak,ax,rfl⟩:=h;have h1:=b5 t (by simp)
    exact⟨p,q,WideElems.Trod_stays aJ h1.1 h1.2 ak (λx u=>U.same (bS x (by simp[u]))) (λx u=>Z x (by simp[u])),
     YE aJ U (λt IK=>b5 t (by simp[IK])) ax (λx u=>bS x (by simp[u])) (λx u=>Z x (by simp[u])),rfl⟩
def aaJ{H:Type}{enc:TypeId×Value→H}{f Bv:Nat}{fn:Func}{s:ChangeSpec}(aJ:laidOutB P=true)(aI:fn.resultTypes=#[Bv])(c1:P.underlying Bv=some .bool)(IQ:s.vars=[])
    (NP:∀t∈fn.params.toList,P.readableRec t=true∧t<P.types.size) {aU:World} {args:jc} (eZ:∃l:List W,ds (iK aU) l args.toList∧dR P f [] l (.bool true))
    (LV:∀dB:List (DataW H),dB.length=fn.params.size→(s.fn H dB).results=[.lit (.bool true)]∧(s.fn H dB).args=dB∧(s.fn H dB).vars=[])
    (fE:Nat) (dB gs:List (DataW H)) (rG:List MemPlace) (p4:∀(j:Nat) t v,fn.params[j]?=some t→args[j]?=some v→Value.okWide P aU .any fE t v)
    (lP:DataW.Whole enc P fn.params.toList s.vars false aU args.toList dB gs rG) :
    Calls P f args aU λe W'=>∃v,e=.returned v∧s.post enc P fn false true false false aU args v W':=by
  have Nl:=lP;obtain⟨p,q,aT,Ch,rfl,atJ,ja⟩:=lP;rw[IQ]at Ch;obtain⟨rfl,rfl⟩:=trodVars_none Ch;simp only[append_nil]at Nl;obtain⟨l,U,MC⟩:=eZ
  have fM:cz ⟨P,0,[]⟩ (pL (iK aU) (λ_=>.nilFunc) [] aU) (iK aU) (λ_=>.nilFunc) [] aU:=
    {good:=C2,iB:=CQ,kg:=cV.refl _,jX:=λ_ _ _ _=>rfl,frame:=λ_ _ _=>rfl,size:=Nat.le_refl _,tape:=rfl,os:=rfl,output:=rfl,drawn:=Nat.le_refl _,
     c4:=λd o af=>by simp[ag.get]at af,ee:=λd dO af=>by simp[ag.get]at af,keep:=λd af=>by simp at af}
  have ah:=MC _ aU (iK aU) (λ_=>.nilFunc) args.toList fM U.Mx;rw[Array.toArray_toList]at ah;refine Calls.mono ah ?_;rintro e W' ⟨v,rfl,r,aH,bq,β',⟨rfl,rfl⟩,l9,fU⟩;have aa:=yI l9;subst aa;have VF:Below aU.heap.size aU W':=⟨fU.os,fU.tape,fU.output,fU.size,λk hk=>fU.frame k hk (by simp[pL,xo,ag.ids])⟩;have eH:dB.length=fn.params.size:=by
    have key:∀(ts:dI) (vs:dQ) (dB:List (DataW H)) (ps:List MemPlace),DataW.TrodAll enc P aU 0 (λ_=>true) true ts vs dB ps→dB.length=ts.length:=by
      intro ts;induction ts with
      |nil=>intro vs dB ps h;cases vs<;>cases dB<;>first|rfl|exact h.elim
      |cons t ts bu=>
        intro vs dB ps h;cases vs<;>cases dB<;>first|exact h.elim|skip
        obtain⟨_,_,_,ax,_⟩:=h;simp[bu _ _ _ ax]
    simpa using key _ _ _ _ aT
  obtain⟨aK,e2,dj⟩:=LV dB eH;have bS:∀x∈p,x.block<aU.heap.size:=λx u=>by simpa using Nl.lt x u
  have ans:∀(b:Nat) (kv:Nat→Bool) (af:Bool),DataW.TrodAll enc P W' b kv af fn.resultTypes.toList ((Value.bool true).resultList fn.resultTypes.size) [DataW.lit (.bool true)] []:=λb kv af=>by
    rw[aI];exact trodAll_mk1 (shut_bool c1 true)
  have n5:∀kv:Nat→Bool,(∀x∈p,kv x.block=true)→DataW.TrodAll enc P W' 0 kv true fn.params.toList args.toList dB p:=λkv yz=>YE aJ VF NP aT bS yz;have kI:=ok_one (P:=P) (W':=W') aI rfl (okWide_bool_mk c1 true);have amc:∀kv:Nat→Bool,DataW.TrodVars enc P W' kv s.vars (s.fn H dB).vars []:=λkv=>by rw[IQ,dj];rfl
  refine⟨_,rfl,dB,[],p,[],p,[],by simpa using Nl,?_,?_,?_,World.keptBut_mono (λx u=>⟨u,.inr (.inl u)⟩) (VF.frame (·∈p)),λh=>by cases h⟩
  · rw[append_nil,aK];exact ans _ _ _
  · rw[append_nil,e2];exact n5 _ (λx u=>by simpa using bS x u)
  · rw[append_nil];exact amc _
end
section
set_option linter.all false
open Go Go.ChangeShapes Go.WideShapes Go.ChangeAt Go.RowKit List
structure td(P:Program)(T:Nat){α:Type}(enc:α→List W)(n:Nat)(bd:α→Prop):Prop where
 cells:P.cellsOf T=n
 read:∀(H:Type) (lM:TypeId×Value→H) (w:World) (fE:Nat) (kv:Nat→Bool) (af:Bool) (fuel:Nat) (cs:dQ) (x:DataW H×List MemPlace),
  DataW.trod lM P w fE kv af fuel T cs=some x→(∀k∈x.1.weights P T,k≤reachBytes)→∃a:α,bd a∧ds (iK w) (enc a) cs
variable {P:Program}{T:Nat}{α:Type}
def Hl.wide{enc:α→List W}{n:Nat}(h:Hl P T enc n):td P T enc n (λ_=>True):=
 ⟨h.cells,λH lM w fE kv af fuel cs x u _=>by obtain⟨a,aA⟩:=h.read H lM w fE kv af fuel cs x u;exact⟨a,trivial,aA⟩⟩
def YB{H:Type}{P:Program}{e:TypeId}:∀{l:List (DataW H)} {d:DataW H} {k:Nat},d∈l→k∈d.weights P e→k∈DataW.weightsAll P e l
 |c::l,d,k,h,hk=>by
  rw[DataW.weightsAll,List.mem_append];rcases mem_cons.1 h with rfl|h
  ·exact .inl hk
  ·exact .inr (YB h hk)
def Zj{E:Nat}{e:kC α}{bd:α→Prop}(h:P.underlying T=some (.slice E))(ah:P.cellsOf T=1)(iG:td P E e.enc e.sz bd)(aF:0<e.sz)(ai:0<P.bytesOf E):td P T (λl:List α=>[.bf false (ar e l)]) 1 (λl=>l.length≤reachBytes∧∀a∈l,bd a):=by
 refine⟨ah,λH lM w fE kv af fuel cs x u hk=>?_⟩;cases fuel with
 |zero=>cases u
 |succ n=>
  unfold DataW.trod at u;rw[h]at u;split at u<;>first|(simp at u;done)|skip
  all_goals (rename_i he;try cases he)
  ·refine⟨[],⟨by simp,by simp⟩,?_⟩;simp only[ds,bm,ar,map_nil];exact⟨_,_,rfl,⟨none,0,rfl,by simp,by simp[maxLen],by simp,by simp⟩,rfl⟩
  ·rename_i a len aV;split at u
   ·rename_i U;obtain⟨_,h1,D⟩:=U;dsimp only at u;generalize hm:(List.range len).mapM (λi=>(w.cells? fE (a.add (i*P.cellsOf E)) (P.cellsOf E)).bind (DataW.trod lM P w fE kv af n E))=j0 at u;cases j0 with
    |none=>cases u
    |some alE=>
     obtain⟨ak,ax⟩:=Ol hm;have aJ:alE.length=len:=by simpa using ak
     rw[Option.bind_some,Option.map_eq_some_iff]at u;obtain⟨iT,_,rfl⟩:=u;rw[DataW.weights,h]at hk;simp only at hk;have eH:len≤reachBytes:=by
      have:=hk _ (mem_cons_self ..);rw[length_map,aJ]at this;exact Nat.le_trans (Nat.le_trans (Nat.le_add_right _ _) (Nat.le_mul_of_pos_right _ ai)) this
     have key:∀i,i<len→∃b:α,bd b∧∃row:dQ,ds (iK w) (e.enc b) row∧∀j v,row[j]?=some v→w.cell? ((a.add (i*P.cellsOf E)).add j)=some v:=λi hi=>by
      obtain⟨z,nF,pS⟩:=ax i i (by simp[hi]);cases aI:w.cells? fE (a.add (i*P.cellsOf E)) (P.cellsOf E)with
      |none=>rw[aI]at nF;cases nF
      |some row=>
       rw[aI]at nF;obtain⟨b,fu,U⟩:=iG.read H lM w fE kv af n row z nF λk oU=>hk k (mem_cons_of_mem _ (List.mem_append_left _ (YB (List.mem_map.2 ⟨z,List.mem_of_getElem? pS,rfl⟩) oU)));exact⟨b,fu,row,U,(aaI aI).2⟩
     obtain⟨l,q6,ku⟩:=Y7 (α:=Unit) len key;refine⟨l,⟨by rw[q6];exact eH,λc ah=>?_⟩,?_⟩
     ·obtain⟨i,hi⟩:=List.getElem?_of_mem ah;exact(ku i c hi).1
     simp only[ds,bm];refine⟨_,_,rfl,⟨some a,aV,by rw[oM,q6],by rw[oM,q6];exact h1,D,by simp,?_⟩,rfl⟩;by_cases bJ:len=0
     ·left;have:l=[]:=eq_nil_of_length_eq_zero (by omega);subst this;rfl
     ·right;have yz:a.spot=none:=by
       obtain⟨b,_,row,hw,ha⟩:=key 0 (by omega);have yx:row.length=e.sz:=by rw[qW _ _ hw,e.hz]
       cases i4:row with
       |nil=>rw[i4]at yx;simp at yx;omega
       |cons aR us=>
        have:=ha 0 aR (by rw[i4];rfl);simp only[Nat.zero_mul,Addr.add,if_true]at this;simp only[World.cell?]at this;split at this
        ·split at this
         ·cases this
         ·rename_i Z;cases atW:a.spot<;>simp_all
        ·cases this
      refine⟨a.block,a.off,?_,?_⟩
      ·obtain⟨b,o,s⟩:=a;simp only at yz;subst yz;rfl
      ·refine YI l a.off e.hz λi c ah=>?_;obtain⟨_,row,hw,ha⟩:=ku i c ah;refine Kk _ _ row hw λj v aa=>?_;have:=ha j v aa;rw[iG.cells,abJ yz,mx]at this;exact this
   ·cases u
structure HF(P:Program)(jD:List (Nat×Nat))(off:Nat){β:Type}(enc:β→List W)(n:Nat)(bd:β→Prop):Prop where
 read:∀(H:Type) (lM:TypeId×Value→H) (w:World) (fE:Nat) (kv:Nat→Bool) (af:Bool) (fuel:Nat) (cs:dQ) (x:List (DataW H×List MemPlace)),
  (jD.mapM λf=>DataW.trod lM P w fE kv af fuel f.1 ((cs.drop f.2).take (P.cellsOf f.1)))=some x→(∀k∈DataW.weightsEach P (jD.map (·.1)) (x.map (·.1)),k≤reachBytes)→∃b:β,bd b∧ds (iK w) (enc b) ((cs.drop off).take n)
def aaK{off:Nat}:HF P [] off (λ_:Unit=>[]) 0 (λ_=>True):=⟨λ_ _ _ _ _ _ _ cs _ _ _=>⟨(),trivial,by simp[ds]⟩⟩
variable {aK:α→List W}{ec:α→Prop}{β:Type}{dY:β→Prop}{e2:β→List W}
def Zk{off n m:Nat}{jD:List (Nat×Nat)}(h1:td P T aK n ec)(D:HF P jD (off+n) e2 m dY):HF P ((T,off)::jD) off (λp:α×β=>aK p.1++e2 p.2) (n+m) (λp=>ec p.1∧dY p.2):=by
 refine⟨λH lM w fE kv af fuel cs x u hk=>?_⟩;rw[mapM_cons]at u;cases aA:DataW.trod lM P w fE kv af fuel T ((cs.drop off).take (P.cellsOf T))with
 |none=>simp only[aA]at u;cases u
 |some y=>
  simp only[aA]at u;cases U:(jD.mapM λf=>DataW.trod lM P w fE kv af fuel f.1 ((cs.drop f.2).take (P.cellsOf f.1)))with
  |none=>rw[U]at u;cases u
  |some bF=>
   rw[U]at u;have u:y::bF=x:=by simpa using u
   subst u;simp only[map_cons,DataW.weightsEach,List.mem_append]at hk;obtain⟨a,m5,ak⟩:=h1.read _ _ _ _ _ _ _ _ _ aA λk oU=>hk k (.inl oU);obtain⟨b,aO,ax⟩:=D.read _ _ _ _ _ _ _ _ _ U λk oU=>hk k (.inr oU);refine⟨(a,b),⟨m5,aO⟩,?_⟩;rw[h1.cells]at ak;rw[oL];refine⟨_,_,?_,ak,ax⟩;rw[←drop_drop,←take_add]
def Z2{n:Nat}{jD:Array Field}{l:List (Nat×Nat)}{enc:β→List W}{bd:β→Prop}(h:P.underlying T=some (.struct jD))(aJ:jD.toList.map (λf=>(f.type,f.offset))=l)(ah:P.cellsOf T=n)(lq:HF P l 0 enc n bd):td P T enc n bd:=by
 refine⟨ah,λH lM w fE kv af fuel cs x u hk=>?_⟩;cases fuel with
 |zero=>cases u
 |succ m=>
  unfold DataW.trod at u;rw[h]at u
  have eW:(if cs.length=P.cellsOf T then(jD.toList.mapM λf=>DataW.trod lM P w fE kv af m f.type ((cs.drop f.offset).take (P.cellsOf f.type))).map λxs=>(DataW.agg (xs.map (·.1)),xs.flatMap (·.2))else none)=some x:=by
   split at u
   all_goals first|(rename_i he;cases he;done)|(rename_i he _;cases he;done)|skip
   ·rename_i he;cases he;exact u
   ·exact(‹∀(alN:Array Field),some (TypeDesc.struct jD)=some (TypeDesc.struct alN)→False› jD rfl).elim
  split at eW
  ·rename_i eH;generalize hm:(jD.toList.mapM λf=>DataW.trod lM P w fE kv af m f.type ((cs.drop f.offset).take (P.cellsOf f.type)))=j0 at eW;cases j0 with
   |none=>cases eW
   |some bF=>
    have rO:(l.mapM λf=>DataW.trod lM P w fE kv af m f.1 ((cs.drop f.2).take (P.cellsOf f.1)))=some bF:=by
     rw[←aJ,List.mapM_map];exact hm
    simp only[Option.map_some,Option.some.injEq]at eW;subst eW;rw[DataW.weights,h]at hk;simp only at hk;obtain⟨b,fu,U⟩:=lq.read _ _ _ _ _ _ _ _ _ rO (by rw[←aJ,List.map_map];exact hk);refine⟨b,fu,?_⟩;rw[drop_zero,take_of_length_le (by omega)]at U;exact U
  ·cases eW
def td.anT{n:Nat}(h:td P T aK n ec)(f:α→β)(bA:∀a,e2 (f a)=aK a)(U:∀a,ec a→dY (f a)):td P T e2 n dY:=
 ⟨h.cells,λH lM w fE kv af fuel cs x u hk=>by obtain⟨a,h1,aA⟩:=h.read H lM w fE kv af fuel cs x u hk;exact⟨f a,U a h1,by rw[bA];exact aA⟩⟩
structure VG(P:Program)(T:Nat){α:Type}(b9:α→W)(ok:α→Prop):Prop where
 read:∀(H:Type) (lM:TypeId×Value→H) (w:World) (fE:Nat) (v:Value) (d:DataW H) (ps:List MemPlace),Value.okWide P w .any fE T v→DataW.Trod lM P w 0 (λ_=>true) true T v d ps→(∀k∈d.weights P T,k≤reachBytes)→∃a:α,ok a∧bm (iK w) (b9 a) v
def Rr{b9:α→W}{bd:α→Prop}(an:td P T (λa=>[b9 a]) 1 bd)(hk:∀w fE v,Value.okWide P w .any fE T v→v.cells=#[v]):VG P T b9 bd:=by
 refine⟨λH lM w fE v d ps aa af bP=>?_⟩;obtain⟨fuel,af⟩:=af;obtain⟨a,Cj,aA⟩:=an.read _ _ _ _ _ _ _ _ _ af bP;rw[hk w fE v aa]at aA;simp only[ds]at aA;obtain⟨aR,us,h1,D,rfl⟩:=aA;simp at h1;subst h1;exact⟨a,Cj,D⟩
structure Hg(P:Program)(ts:List Nat){β:Type}(dX:β→List W)(ok:β→Prop):Prop where
 read:∀(H:Type) (lM:TypeId×Value→H) (w:World) (fE:Nat) (vs:dQ) (dB:List (DataW H)) (ps:List MemPlace),(∀(j:Nat) t v,ts[j]?=some t→vs[j]?=some v→Value.okWide P w .any fE t v)→
  DataW.TrodAll lM P w 0 (λ_=>true) true ts vs dB ps→(∀k∈DataW.weightsEach P ts dB,k≤reachBytes)→∃b:β,ok b∧ds (iK w) (dX b) vs
def aaL:Hg P [] (λ_:Unit=>[]) (λ_=>True):=⟨λ_ _ _ _ vs dB _ _ h _=>by
 cases vs<;>cases dB<;>first|exact⟨(),trivial,rfl⟩|exact h.elim⟩
def Zl{ts:dI}{iM:α→W}{a2:β→List W}{iR:α→Prop}{gP:β→Prop}(h1:VG P T iM iR)(D:Hg P ts a2 gP):Hg P (T::ts) (λp:α×β=>iM p.1::a2 p.2) (λp=>iR p.1∧gP p.2):=by
 refine⟨λH lM w fE vs dB ps aa h hk=>?_⟩;cases vs with
 |nil=>cases dB<;>exact h.elim
 |cons v vs=>
  cases dB with
  |nil=>exact h.elim
  |cons d dB=>
   obtain⟨p,q,ak,ax,_⟩:=h;simp only[DataW.weightsEach,List.mem_append]at hk;obtain⟨a,vU,aA⟩:=h1.read H lM w fE v d p (aa 0 T v rfl rfl) ak λk oU=>hk k (.inl oU);obtain⟨b,bc,U⟩:=D.read H lM w fE vs dB q (λj t v h b3=>aa (j+1) t v (by simpa using h) (by simpa using b3)) ax λk oU=>hk k (.inr oU);exact⟨(a,b),⟨vU,bc⟩,by simp only[ds];exact⟨v,vs,rfl,aA,U⟩⟩
def Yp{H:Type}{P:Program}{k:Nat}:∀{ts us:List TypeId} {dB gs:List (DataW H)},k∈DataW.weightsEach P ts dB→k∈DataW.weightsEach P (ts++us) (dB++gs)
 |[],_,_,_,h=>by simp[DataW.weightsEach]at h
 |_::_,_,[],_,h=>by simp[DataW.weightsEach]at h
 |t::ts,us,d::dB,gs,h=>by
  simp only[cons_append,DataW.weightsEach,List.mem_append]at h ⊢;exact h.imp id Yp
variable {H:Type}{enc:TypeId×Value→H}{fn:Func}
def aau{f Bv:Nat}{s:ChangeSpec}{dX:β→List W}{ok:β→Prop}(aJ:laidOutB P=true)(aI:fn.resultTypes=#[Bv])(c1:P.underlying Bv=some .bool)(IQ:s.vars=[])
  (NP:∀t∈fn.params.toList,P.readableRec t=true∧t<P.types.size) (eZ:Hg P fn.params.toList dX ok) (MC:∀b,ok b→dR P f [] (dX b) (.bool true))
  (LV:∀dB:List (DataW H),dB.length=fn.params.size→(s.fn H dB).results=[.lit (.bool true)]∧(s.fn H dB).args=dB∧(s.fn H dB).vars=[])
  (aU:World) (fE:Nat) (args:jc) (dB gs:List (DataW H)) (rG:List MemPlace) (us:List TypeId) (p4:∀(j:Nat) t v,fn.params[j]?=some t→args[j]?=some v→Value.okWide P aU .any fE t v)
  (lP:DataW.Whole enc P fn.params.toList s.vars false aU args.toList dB gs rG) (hk:(DataW.weightsEach P (fn.params.toList++us) (dB++gs)).all (·≤reachBytes)=true) :
  Calls P f args aU λe W'=>∃v,e=.returned v∧s.post enc P fn false true false false aU args v W':=by
 refine aaJ aJ aI c1 IQ NP ?_ LV fE dB gs rG p4 lP;obtain⟨p,q,aT,_⟩:=lP
 obtain⟨b,h1,D⟩:=eZ.read H enc aU fE args.toList dB p (λj t v h b3=>p4 j t v (by simpa using h) (by simpa using b3)) aT λk oU=>by
  have:=List.all_eq_true.1 hk k (Yp oU);simpa using this
 exact⟨_,D,MC b h1⟩
def ad0{a:Assume}{C:Checked}{os:Os}{f:FuncId}{s:ChangeSpec}{conds:List PathCond}{x4 fresh handsOn again:Bool}
  (own:ownKnob C.prog.godebug=none) (Dq:os.Started) (aom:C.prog.inits.idxOf? f=none) (NA:C.prog.funcs[f]?=some fn)
  (aqQ:∃(w:World) (tape:Tape) (i:Input),w.os=os∧(w.forCall tape i).Shaped C.prog∧i.vars=[]∧Input.okWide C.prog (w.forCall tape i) .any w.heap.size f i∧
   s.pre6 enc C.prog fn conds x4 (w.forCall tape i).memory i.args∧a.holds C.prog (lone (Frame.enter C.prog f i.args .normal) [] (w.forCall tape i)))
  (EG:∀(aU:World) (fE:Nat) (args:jc) (dB gs:List (DataW H)) (rG:List MemPlace),
   (∀(j:Nat) t v,fn.params[j]?=some t→args[j]?=some v→Value.okWide C.prog aU .any fE t v)→
   DataW.Whole enc C.prog fn.params.toList s.vars x4 aU args.toList dB gs rG→
   (DataW.weightsEach C.prog (fn.params.toList++s.plain.varTypes C.prog) (dB++gs)).all (·≤reachBytes)=true→
   Calls C.prog f args aU λe W'=>∃v,e=.returned v∧s.post enc C.prog fn x4 fresh handsOn again aU args v W') :
  ReturnsInHanded a C os f .any (s.pre6 enc C.prog fn conds x4) (s.post enc C.prog fn x4 fresh handsOn again):=by
 have h:=returnsInHanded_of_change_and (X:=λ_ _=>True) (conds:=conds) (fresh:=fresh) (handsOn:=handsOn) (again:=again) (λ_ _ _ _ _=>trivial) own Dq aom NA (let⟨w,t,i,h1,D,aq,aZ,bV,dU⟩:=aqQ;⟨w,t,i,h1,D,aq,aZ,⟨⟨bV.1,trivial⟩,bV.2⟩,dU⟩) λaU fE args dB gs rG h1 D _ aZ _ _=>EG aU fE args dB gs rG h1 D aZ
 have e:(λ(w:World) (args:jc)=>(s.pre enc C.prog fn conds x4 w args∧True)∧sizedMet enc C.prog fn (OpenSpec.ofChange s) x4 w args)=s.pre6 enc C.prog fn conds x4:=by
  funext w args;simp only[and_true];rfl
 rw[e]at h;exact h
end
section
set_option linter.all false
open Go List
variable {P:Program}{bY:hI}
variable {o:Oper}{σ:ag}
def awV{G:cR}{ev:Operand→W}{T E sz len d:Nat}{parts:Array (Nat×Operand)}{zs:dQ}{xs:List (List W)}(h:o.op=.buildSlice T len parts)(aT:nA G.P T E sz zs)(aJ:parts.size=len)(Z:len*sz≤65536∧len≤65536)
  (bA:vS sz 0 (parts.toList.map λp=>(p.1,ev p.2))=some xs) (aI:qa (Nat.beq d) xs.flatten=false) (hi:G.ids.contains d=false):Yields G o ev ((d,.cells E xs.flatten)::σ) [d] [d] (.ja (.BY len) d):=by
 intro aH cx I β w bn c3 av hm hop;have h1:∀p∈parts.toList,aC I β (ev p.2) (bn p.2):=λp aF=>hop p.2 (by simp only[h,Op.operands];simpa using ⟨p.1,by simpa using aF⟩);obtain⟨z,ji,hN⟩:=aT.zero w
 let L:jc:=(Array.range (len*sz)).map ((if len*sz=0 then #[]else z.cells)[·%(if len*sz=0 then #[]else z.cells:jc).size]!)
 have uK:L.size=len*sz:=by simp[L]
 obtain⟨r,us,hw,ha,mJ,ql,xC,v8⟩:=F7 (I:=I) (β:=β) sz (parts.toList.map λp=>(p.1,ev p.2)) (parts.toList.map λp=>(p.1,bn p.2)) 0 L xs
  ⟨by simp,λj p q aY bP=>by
   simp only[List.getElem?_map]at aY bP;cases u:parts.toList[j]? with
   |none=>rw[u]at aY;cases aY
   |some y=>
    rw[u]at aY bP;simp only[Option.map_some,Option.some.injEq]at aY bP;subst aY bP;exact⟨rfl,h1 y (List.mem_of_getElem? u)⟩⟩ bA (by simp[uK,aJ])
 have yy:r.toList=us:=by
  rw[mJ];have l0:L.toList.drop ((0+(parts.toList.map λp=>(p.1,ev p.2)).length)*sz)=[]:=drop_of_length_le (by simp[uK,aJ]);rw[l0];simp
 have eV:(execOp bn o).run G.P w=.ok (.value (.slice (some ⟨w.heap.size,0,none⟩) len len)) (w.alloc (.cells r E)):=by
  have Ac:¬(len*sz>2 ^ 24):=by have:(2:Nat) ^ 24=16777216:=by decide
                               omega
  have oB:Instr.fill (λi=>some (i*sz,sz)) L (parts.map λ(i,x)=>(i,bn x)).toList=some r:=by simpa using hw
  simp only[execOp,h,Instr.buildSlice,Sem.run_bind,run_underlying aT.gT,aT.size,Result.andThen_ok,Ac,if_false];by_cases bJ:len*sz=0
  ·have sG:L=(Array.range (len*sz)).map ((#[]:jc)[·%(#[]:jc).size]!):=by simp only[L,bJ,if_true]
   rw[sG]at oB;simp only[bJ,if_true,Sem.run_bind,Sem.run_pure,Result.andThen_ok]at oB ⊢;simp only[oB];simp[newRow]
  ·have sG:L=(Array.range (len*sz)).map (z.cells[·%z.cells.size]!):=by simp only[L,bJ,if_false]
   rw[sG]at oB;simp only[bJ,if_false,Sem.run_bind,ji,Sem.run_pure,Result.andThen_ok];simp only[oB];simp[newRow]
 rw[eV];have mB:=hm d (by simp);refine⟨I,hy β d (.pointer (some ⟨w.heap.size,0,none⟩)),by simp only[aC,uE.rep];exact⟨w.heap.size,by rw[gX];rfl,rfl⟩,?_,cV.refl I,λx u=>iu β _ (λe=>u (by simp[e]))⟩;refine av.real (by simpa using hi) mB rfl λbc cG=>?_;rw[c3 d (by simp),avA,if_pos rfl]at cG;injection cG with cG
 subst cG;simp only[bb,gX];refine .inr ⟨w.heap.size,r,rfl,heap_alloc_new w _,?_,λo=>av.jG (Nat.le_refl _) o,.inl av.size⟩;rw[yy];exact vP (cV.refl I) (avY mB) _ _ ql
def MU(bY:hI)(d:Nat)(ids:dI)(op:Op)(env:au):Option (dw×di):=match op with
 |.buildSlice T len parts=>match bY.get T with
  |some ⟨_,_,_,.slice E sz _ _⟩=>bif Nat.beq parts.size len&&(Nat.ble (len*sz) 65536&&Nat.ble len 65536)&&!ids.contains d then(match env.u9 parts.toList with
   |none=>none
   |some ps=>match yJ sz 0 ps with
    |none=>none
    |some xs=>bif !qa (Nat.beq d) xs.flatten then some (.v d (.cells E xs.flatten) (.ja (.BY len) d),([],[]))else none)else none
  |_=>none
 |_=>none
def afW(aU:kJ P bY){d:Nat}{N:Nat}{ids:dI}{env:au}{s:dw}{bc:di}(h:MU bY d ids o.op env=some (s,bc)):gj ⟨P,N,ids⟩ o env σ s:=by
 unfold MU at h;split at h
 ·rename_i T len parts an;split at h
  ·rename_i aT;have hk:=(ki.get aU.tys aT).kd;simp only[nR]at hk;generalize U:(Nat.beq parts.size len&&_&&_)=eU at h;cases eU with
   |false=>cases h
   |true=>
    simp only[cond_true]at h;rw[Bool.and_eq_true,Bool.and_eq_true]at U;split at h
    ·cases h
    ·rename_i ps aF;split at h
     ·cases h
     ·rename_i xs bA;cases ah:qa (Nat.beq d) xs.flatten with
      |true=>rw[ah]at h;cases h
      |false=>
       rw[ah]at h;cases h
       have hi:ids.contains d=false:=by simpa using U.2
       exact⟨hi,awV (G:=⟨P,N,ids⟩) an hk.2.2 (by simpa using U.1.1) (by simpa using U.1.2) (by rw[awf aF];exact JK _ bA) ah hi⟩
  ·cases h
 ·cases h
def VH(aU:kJ P bY)(d:Nat):Hint P:=.gs false ([],[]) (λids op env _=>MU bY d ids op env) λ_ _ _ _ _ _ _ h _=>afW aU h
end
end Go.Proofs.YtmnbolcmepihlaaGreat
