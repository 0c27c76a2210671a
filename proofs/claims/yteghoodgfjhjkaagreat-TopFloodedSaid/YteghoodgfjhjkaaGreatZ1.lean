/- A part of the proof; the last text says of what. No condition but those that stand in each. -/
import Derived.Test.YteghoodgfjhjkaaGreatZ0
import Derived.Lib.SliceRun
import Derived.Laws.BytesString
import Derived.Scope
import Derived.Below
import Derived.ChangeSame
import Derived.WideKeyArgs
import Derived.ProofKit
import Derived.LoopN
import Derived.Shelf.SlSortCmp.NoneTotal
import Derived.Shelf.Spec.SlicesInsertGrow
import Derived.Maps.RangeRun
import Derived.Laws.MakeOwn
import Derived.Laws.OwnMore
namespace Go.Proofs.YteghoodgfjhjkaaGreat
section
set_option linter.all false
open Go
section
def aa{α β:Type}(o:Option α)(k:α->Option β):Option β:=match o with|none=>none|some a=>k a
def dj{α β:Type}(o:Option α)(k:α->Option β)(b:Option β):Option β:=match o with|none=>b|some a=>k a
def eU{β:Type}(c:Bool)(k:Option β):Option β:=bif c then k else none
def jn{σ β:Type}(k:σ->Option β)(t:(σ->Option β)->Option β):Option β:=t k
def bL{α σ β:Type}:List α->Nat->(Int->α->(σ->Option β)->σ->Option β)->(σ->Option β)->σ->Option β
 |[],_,_,K,s=>K s
 |x::r,j,B,K,s=>B (j:Int) x (bL r (j+1) B K) s
def hM{σ β:Type}:Nat->Int->(Int->(σ->Option β)->σ->Option β)->(Int->σ->Option β)->σ->Option β
 |0,i,_,K,s=>K i s
 |n+1,i,B,K,s=>B i (hM n (i+1) B K) s
def iter{σ β:Type}(F:(σ->Option β)->σ->Option β):Nat->σ->Option β
 |0,_=>none
 |n+1,s=>F (iter F n) s
def fuel:Nat:=1099511627776
def fI{σ β:Type}(F:(σ->Option β)->σ->Option β)(s:σ):Option β:=iter F fuel s
def a1(n:Int):Int:=IntKind.wrap .i64 n
def b4{α:Type}(l:List α)(i:Int):Option α:=if 0<=i then l[i.toNat]? else none
def fu{α:Type}(l:List α)(i:Int)(x:α):Option (List α):=if 0<=i/\i<l.length then some (l.set i.toNat x)else none
def aM:Nat:=549755813888
def dr{α:Type}(l r:List α):Option (List α):=if l.length+r.length<=aM then some (l++r)else none
def gT{α:Type}(l:List α)(a b:Int):Option (List α):=if 0<=a/\a<=b/\b<=l.length then some ((l.take b.toNat).drop a.toNat)else none
def BH(s:ByteArray)(n:Int):Option UInt8:=if 0<=n then s[n.toNat]? else none
theorem K4{s:ByteArray}{n:Int}{b:UInt8}(h:BH s n=some b):0<=n/\s[n.toNat]?=some b:=by
 unfold BH at h
 grind
variable {α β:Type}{o:Option α}{r:β}
def ah{k:α->Option β}(h:aa o k=some r):∃a,o=some a/\k a=some r:=by
 cases o with
 |none=>cases h
 |some a=>exact⟨a,rfl,h⟩
def u9{k:α->Option β}{b:Option β}(h:dj o k b=some r):(∃a,o=some a/\k a=some r)\/b=some r:=by
 cases o with
 |none=>exact .inr h
 |some a=>exact .inl ⟨a,rfl,h⟩
def hA{c:Bool}{k:Option β}(h:eU c k=some r):c=true/\k=some r:=by
 cases c with
 |false=>cases h
 |true=>exact⟨rfl,h⟩
theorem aC{c:Bool}{x y:Option β}(h:(bif c then x else y)=some r):(c=true/\x=some r)\/(c=false/\y=some r):=by grind
variable {σ:Type}
def cW{k:σ->Option β}{t:(σ->Option β)->Option β}(h:jn k t=some r):∃J,J=k/\t J=some r:=⟨k,rfl,h⟩
def cw{a b:α}(h:some a=some b):a=b:=by injection h
variable {j:Nat}{l:List α}
def cO{b:Int->α->(σ->Option β)->σ->Option β}{k:σ->Option β}{s:σ}(h:bL l j b k s=some r):
  ∃B K,B=b/\K=k/\bL l j B K s=some r:=⟨b,k,rfl,rfl,h⟩
variable {i:Int}
def pS{n:Nat}{b:Int->(σ->Option β)->σ->Option β}{k:Int->σ->Option β}{s:σ}(h:hM n i b k s=some r):
  ∃B K,B=b/\K=k/\hM n i B K s=some r:=⟨b,k,rfl,rfl,h⟩
def iK{f:(σ->Option β)->σ->Option β}{s:σ}(h:fI f s=some r):∃F n,F=f/\iter F n s=some r:=⟨f,_,rfl,h⟩
variable {x:α}
def jJ[Inhabited α](h:b4 l i=some x):(0<=i/\i<l.length)/\el l i=x:=by
 unfold b4 at h;split at h
 .rename_i a;obtain⟨c,b⟩:=List.getElem?_eq_some_iff.1 h;refine⟨⟨a,by omega⟩,?_⟩;simp[el,List.getD_eq_getElem?_getD,h]
 .cases h
def b3(h:l[j]?=some x):b4 l (j:Int)=some x:=by
 unfold b4;rw[if_pos (by omega)];simpa using h
variable {m:List α}
theorem KO(h:fu l i x=some m):(0<=i/\i<l.length)/\l.set i.toNat x=m:=by
 unfold fu at h
 grind
theorem KP{r:List α}(h:dr l r=some m):l.length+r.length<=aM/\l++r=m:=by
 unfold dr at h
 grind
variable {a:Int}
theorem KQ{b:Int}(h:gT l a b=some m):(0<=a/\a<=b/\b<=l.length)/\(l.take b.toNat).drop a.toNat=m:=by
 unfold gT at h
 grind
structure eT(α:Type) where
 enc:α->List H
 sz:Nat
 hz:∀r,(enc r).length=sz
 one:∀r,(enc r).all H.one=true
 cl:∀r,g7 (enc r)=true
def af{α:Type}(e:eT α)(l:List α):List (List H):=l.map e.enc
def i1(e:eT α)(l:List α):(af e l).length=l.length:=by simp[af]
def qC(e:eT α)(l:List α):∀x∈af e l,x.length=e.sz:=λx a=>by
 obtain⟨r,_,rfl⟩:=List.mem_map.1 a;exact e.hz r
def AG(e:eT α)(l:List α):(af e l).flatten.all H.one=true:=Mq e.enc e.one l
def aW:eT Int:=⟨encI,1,λ_=>rfl,λ_=>rfl,λ_=>rfl⟩
def cZ(k:IntKind):eT Int:=⟨λa=>[.int k a],1,λ_=>rfl,λ_=>rfl,λ_=>rfl⟩
def Hj{α:Type}(e:eT α):eT (List α):=⟨λl=>[.bn false (af e l)],1,λ_=>rfl,λ_=>rfl,λ_=>rfl⟩
def ny(sz:Nat)(xs:List (List H))(i:Int)(row:List H):Prop:=(∀a∈xs,a.length=sz)/\0<=i/\i<xs.length/\el xs i=row
def ix(e:eT α)(h:b4 l i=some x):ny e.sz (af e l) i (e.enc x):=by
 refine⟨qC e l,?_⟩;unfold b4 at h;split at h
 .rename_i a;obtain⟨c,b⟩:=List.getElem?_eq_some_iff.1 h;exact⟨a,by rw[i1];omega,by simp[af,el,List.getD_eq_getElem?_getD,h]⟩
 .cases h
def vz(sz bytes:Nat)(xs ys b:List (List H)):Prop:=
 xs++ys=b/\(∀a∈xs,a.length=sz)/\(∀a∈ys,a.length=sz)/\ys.flatten.all H.one=true/\(xs.length+ys.length)*bytes<=140737488355328/\xs.length+ys.length<=maxLen
def ap(e:eT α){bytes:Nat}(b:bytes<=256){r:List α}(h:dr l r=some m):vz e.sz bytes (af e l) (af e r) (af e m):=by
 obtain⟨c,a⟩:=KP h;unfold aM at c;refine⟨by rw[<-a];simp[af],qC e l,qC e r,AG e r,?_,?_⟩
 .rw[i1,i1];exact Nat.le_trans (Nat.mul_le_mul_left _ b) (by omega)
 .rw[i1,i1];unfold maxLen;omega
def vE(sz:Nat)(xs:List (List H))(i:Int)(off:Nat)(ca:List H)(a:List (List H)):Prop:=
 ny sz xs i (el xs i)/\a=xs.set i.toNat (e3 (el xs i) off ca)
def st[Inhabited α](e:eT α){y:α}{off:Nat}{ca:List H}(c:b4 l i=some x)(h:fu l i y=some m)(g:e3 (e.enc x) off ca=e.enc y):vE e.sz (af e l) i off ca (af e m):=by
 have j:=ix e c;obtain⟨d,f,b,a⟩:=j;refine⟨⟨d,f,b,rfl⟩,?_⟩;rw[a,g,<-(KO h).2];simp[af,List.map_set]
def j4(sz:Nat)(xs:List (List H))(a b:Int)(d:List (List H)):Prop:=(∀c∈xs,c.length=sz)/\(0<=a/\a<=b/\b<=xs.length)/\(xs.take b.toNat).drop a.toNat=d
def sl(e:eT α){b:Int}(h:gT l a b=some m):j4 e.sz (af e l) a b (af e m):=by
 obtain⟨d,c⟩:=KQ h;exact⟨qC e l,by rw[i1];exact d,by rw[<-c];simp[af,List.map_drop,List.map_take]⟩
def dJ(k:IntKind)(n:Int):H:=.int k n
def gL(b:Bool):H:=.bool b
def vB(P:Program)(E:Nat)(k:IntKind)(g:List (H×H))(n:Int)(a:H)(b:Bool):Prop:=∃(α:Type) (l:List (Int×α)) (enc:α->H) (e:α),
 g=bo k enc l/\a=enc ((aB l n).getD e)/\b=(aB l n).isSome/\(∀d,∃c,(zeroValue E).run P d=.ok c d/\∀f,aS f (enc e) c)
def sB(k:IntKind)(b:List (H×H))(n:Int)(v:H)(a:List (H×H)):Prop:=∃(α:Type) (l:List (Int×α)) (enc:α->H) (x:α),b=bo k enc l/\v=enc x/\(enc x).closed=true/\a=bo k enc (bM l n x)
def vC(k:IntKind)(a:List (H×H))(n:Int):Prop:=∃(α:Type) (l:List (Int×α)) (enc:α->H),a=bo k enc l/\n=l.length
variable {enc:α->H}{k:IntKind}
def lk{P:Program}{E:Nat}(l:List (Int×α))(n:Int)(a:α)(b:∀w,∃v,(zeroValue E).run P w=.ok v w/\∀I,aS I (enc a) v):vB P E k (bo k enc l) n (enc ((aB l n).getD a)) (aB l n).isSome:=⟨α,l,enc,a,rfl,rfl,rfl,b⟩
def ko(l:List (Int×α))(n:Int)(x:α)(a:(enc x).closed=true):sB k (bo k enc l) n (enc x) (bo k enc (bM l n x)):=⟨α,l,enc,x,rfl,rfl,a,rfl⟩
def lm(l:List (Int×α)):vC k (bo k enc l) (l.length:Int):=⟨α,l,enc,rfl,rfl⟩
def y4:Nat->List (List H)->Prop
 |0,xs=>xs.length<=maxLen
 |n+1,xs=>xs.length<=maxLen/\∀b∈xs,∀c a,H.bn c a∈b->y4 n a
def ij(xs:List (List H)):Prop:=∀a,y4 a xs
def ij.len{xs:List (List H)}(h:ij xs):xs.length<=maxLen:=h 0
def et{n:Int}(b : -9223372036854775808<=n)(a:n<=9223372036854775807):a1 n=n:=Aq b a
def cQ{e:eT α}(h:l[j]?=some x)(a:ij (af e l)):H.int .i64 (IntKind.wrap .i64 ((j:Int)+1))=.int .i64 ((j+1:Nat):Int):=by
 obtain⟨b,_⟩:=List.getElem?_eq_some_iff.1 h;have a:=a.len;rw[i1]at a;unfold maxLen at a;rw[show IntKind.wrap .i64 ((j:Int)+1)=(j:Int)+1 from Aq (by omega) (by omega)];rfl
def o5{hi:Int}(b : -9223372036854775808<=i)(h:i<hi)(a:hi<=9223372036854775807):H.int .i64 (IntKind.wrap .i64 (i+1))=.int .i64 (i+1):=by
 rw[show IntKind.wrap .i64 (i+1)=i+1 from Aq (by omega) (by omega)]
def bl(e:eT α)(l:List α):H.int .i64 ((af e l).length:Int)=.int .i64 (l.length:Int):=by rw[i1]
def mI{α:Type}(a:α->α->Int)(x:α):List α->List α
 |[]=>[x]
 |y::r=>if a y x<0 then y::mI a x r else x::y::r
def jN{α:Type}(a:α->α->Int):List α->List α
 |[]=>[]
 |x::r=>mI a x (jN a r)
def mJ{α:Type}(b:α->α->Int):List α->Bool
 |a::c::r=>decide (b a c<0)&&mJ b (c::r)
 |_=>true
def hK{α:Type}(a:α->α->Int)(l:List α):Option (List α):=bif mJ a (jN a l)&&decide (l.length<4611686018427387904)then some (jN a l)else none
def yV{α:Type}(a:α->α->Int)(x:α):∀l:List α,(mI a x l).Perm (x::l)
 |[]=>.refl _
 |y::r=>by
  simp only[mI];split
  .exact((yV a x r).cons y).trans (.swap x y r)
  .exact .refl _
def rR{α:Type}(a:α->α->Int):∀l:List α,(jN a l).Perm l
 |[]=>.refl _
 |x::r=>(yV a x _).trans ((rR a r).cons x)
def Cw{α:Type}{d:α->α->Int}(f:∀a b c,d a b<0->d b c<0->d a c<0):∀{l:List α},mJ d l=true->l.Pairwise λa b=>d a b<0
 |[],_=>.nil
 |[x],_=>by simp
 |a::b::r,h=>by
  simp only[mJ,Bool.and_eq_true,decide_eq_true_eq]at h;have g:=Cw f h.2;rw[List.pairwise_cons];refine⟨λi e=>?_,g⟩;rcases List.mem_cons.1 e with rfl|e
  .exact h.1
  .exact f _ _ _ h.1 ((List.pairwise_cons.1 g).1 i e)
def JW{d:α->α->Int}(f:∀a b c,d a b<0->d b c<0->d a c<0)(h:hK d l=some m):m.Perm l/\(m.Pairwise λa b=>d a b<0)/\l.length<4611686018427387904:=by
 unfold hK at h;cases e:(mJ d (jN d l)&&decide (l.length<4611686018427387904))with
 |false=>rw[e]at h;cases h
 |true=>
  rw[e]at h;cases h
  simp only[Bool.and_eq_true,decide_eq_true_eq]at e;exact⟨rR d l,Cw f e.1,e.2⟩
theorem CI{α:Type}{f:α->α->Int}:∀{d m:List α},d.Perm m->(m.Pairwise λa b=>f a b<0)->(d.Pairwise λa b=>¬f b a<0)->d=m
 |[],m,c,_,_=>c.symm.eq_nil.symm
 |x::d,[],c,_,_=>by have:=c.eq_nil;cases this
 |x::d,y::m,c,h1,e=>by
  rw[List.pairwise_cons]at h1 e;have g:x=y:=by
   refine Classical.byContradiction λh=>?_;have i:x∈m:=by grind
   grind
  subst g;rw[CI (List.Perm.cons_inv c) h1.2 e.2]
def dQ{α:Type}:List (α->Int)->α->α->Int
 |[],_,_=>0
 |k::r,a,b=>if k a<k b then -1 else if k b<k a then 1 else dQ r a b
def pT(k:α->Int)(r:List (α->Int))(a b:α):dQ (k::r) a b<0↔k a<k b\/k a=k b/\dQ r a b<0:=by
 simp only[dQ];omega
def CJ{α:Type}:∀(l:List (α->Int)) (a:α),¬dQ l a a<0
 |[],_=>by simp[dQ]
 |k::r,a=>by rw[pT];intro b;rcases b with b|b;omega;exact CJ r a b.2
def oa{α:Type}:∀(l:List (α->Int)) (a b c:α),dQ l a b<0->dQ l b c<0->dQ l a c<0
 |[],_,_,_=>by simp[dQ]
 |k::r,a,b,c=>by
  simp only[pT];intro e d;rcases e with e|e<;>rcases d with d|d
  .omega
  .omega
  .omega
  .exact .inr ⟨by omega,oa r a b c e.2 d.2⟩
def CK{α:Type}:∀(l:List (α->Int)) (a b c:α),¬dQ l a b<0->¬dQ l b c<0->¬dQ l a c<0
 |[],_,_,_=>by simp[dQ]
 |k::r,a,b,c=>by
  simp only[pT];intro j f d;rcases d with d|⟨d,g⟩
  .omega
  .by_cases m:k a<k b
   .omega
   by_cases n:k b<k c
   .omega
   have h:k a=k b:=by omega
   have i:k b=k c:=by omega
   exact CK r a b c (λe=>j (.inr ⟨h,e⟩)) (λe=>f (.inr ⟨i,e⟩)) g
def qK{α:Type}(l:List α)(i:Int)(x:α):Option (List α):=if(0<=i/\i<=l.length)/\l.length+1<=aM then some (l.take i.toNat++x::l.drop i.toNat)else none
def mK{α:Type}(l:List α)(i j:Int):Option (List α):=if 0<=i/\i<j/\j<=l.length then some (l.take i.toNat++l.drop j.toNat)else none
def KR(h:qK l i x=some m):(0<=i/\i<=l.length)/\l.length+1<=549755813888/\l.take i.toNat++x::l.drop i.toNat=m:=by
 unfold qK at h;split at h
 .rename_i a;cases h;exact⟨a.1,a.2,rfl⟩
 .cases h
theorem KS{j:Int}(h:mK l i j=some m):(0<=i/\i<j/\j<=l.length)/\l.take i.toNat++l.drop j.toNat=m:=by
 unfold mK at h
 grind
end
section
inductive sA where
 |int (k:IntKind)
 |bool
 |str
 |slice (E sz bytes:Nat) (zs:cR)
 |map (K E:Nat) (k:IntKind)
 |struct (zs:cR) (dn:List (Nat×Nat)) (YE:List Bool)
 |fN
structure nB where
 sz:Nat
 bU:Bool
 zs:Option (List Value)
 kd:sA
def gU(P:Program)(T:Nat):sA->Prop
 |.int k=>P.underlying T=some (.int k)
 |.bool=>P.underlying T=some .bool
 |.str=>P.underlying T=some .string
 |.slice E a bytes d=>iU P T E a/\wR P T E a bytes/\o2 P T E a d
 |.map K E k=>fZ P T K E k
 |.struct d c g=>s9 P T d c/\(∀f b a,c[f]?=some (b,a)->s8 P T f b)/\∀f b a e,c[f]?=some (b,a)->g[f]?=some e->qy P T f b a e
 |.fN=>True
structure wL(P:Program)(T:Nat)(i:nB):Prop where
 ty:fO P T i.sz i.bU
 Ij:∀zs,i.zs=some zs->∀w,∃z,(zeroValue T).run P w=.ok z w/\z.cells=zs.toArray
 kd:gU P T i.kd
abbrev eb:=List (Nat×nB)
def eb.get:eb->Nat->Option nB
 |[],_=>none
 |(k,v)::r,n=>bif Nat.beq k n then some v else eb.get r n
def e9(P:Program):eb->Prop
 |[]=>True
 |(k,v)::r=>wL P k v/\e9 P r
def e9.get{P:Program}:∀{bm:eb} {T:Nat} {i:nB},e9 P bm->bm.get T=some i->wL P T i
 |[],_,_,_,h=>by simp[eb.get]at h
 |(k,v)::r,T,i,q,h=>by
  simp only[eb.get]at h;cases u:Nat.beq k T<;>rw[u]at h
  .exact e9.get q.2 h
  .simp only[cond_true,Option.some.injEq]at h;have:k=T:=by simpa using u
   subst this h;exact q.1
structure fe(P:Program)(bm:eb):Prop where
 mix:P.follows .mixedOrders=true
 tys:e9 P bm
structure be(P:Program)(f:FuncId):Prop where
 h:∀(args:fz) (w:World),(callFunc f args).run P w=.ok (.enter f args) w
variable {α:Type}
theorem dX{c:Bool}{x:Option α}{y:α}(h:(bif c then x else none)=some y):c=true/\x=some y:=by grind
def AL:bY->Prop
 |.slice _ _ xs _ _=>∀c∈xs,iR c=true
 |.map _ _ b=>∀a∈b,a.1.fq=true/\a.2.fq=true
 |_=>False
def mh:U->Prop
 |[]=>True
 |p::r=>AL p.2/\mh r
def wM(a:H):Prop:=∀(I:aZ) (β:Nat->Value) b,au I β a b->∃e d c,b=.slice (some e) d c
theorem zT{f:Bool}{xs:List (List H)}(h:xs≠[]):wM (.bn f xs):=λI β g a=>by
 simp only[au,aS]at a;obtain⟨c,e,rfl,_,_,_,b|⟨d,o,rfl,_⟩⟩:=a
 .exact absurd b h
 .grind
def zD:wM .fc:=λI β d a=>by
 simp only[au,aS]at a;obtain⟨b,c,rfl,_⟩:=a;exact⟨_,_,_,rfl⟩
abbrev b7:=List H×U
inductive b8 where
 |y (R:cr) (bI:H)
 |v (d:Nat) (TK:bY) (bI:H)
 |e (M news:cr) (bI:H) (Tw:U)
def dL(G:bG)(o:Oper)(env:ag)(σ:U):b8->Prop
 |.y c b=>Yields G o env.ev σ [] c b
 |.v a d b=>G.ids.contains a=false/\Yields G o env.ev ((a,d)::σ) [a] [a] b
 |.e M news b e=>eB G o env.ev σ M news (λf g=>f=b/\g=e)/\news.all (λa=>!G.ids.contains a)=true
inductive Hint(P:Program):Type where
 |td
 |al (d:Nat)
 |to (h:Hint P) (a b:H) (e:a=b)
 |ix (sz:Nat) (xs:List (List H)) (i:Int) (row:List H) (Ue:ny sz xs i row)
 |lo (d sz:Nat) (xs:List (List H)) (i:Int) (off:Nat) (row:List H) (Ue:ny sz xs i row)
 |so (d sz:Nat) (xs:List (List H)) (i:Int) (off:Nat) (ca:List H) (zs:List (List H)) (Ue:vE sz xs i off ca zs) (k:Nat) (hk:(k:Int)<=i)
 |rf (f:FuncId) (abg ch:List H) (r:H) (Ue:bB P f [] (ch++abg) r) (Y:be P f)
 |ro (acp:Nat) (f:FuncId) (σs:U) (ch:List H) (r:H) (Ue:bB P f σs ch r) (Y:be P f)
 |le (b9:cr) (f:FuncId) (ch:List H) (r:H) (Ue:bB P f [] ch r) (Y:be P f)
 |hU (news:cr) (f:FuncId) (b2:U) (ch:List H) (r:H) (σ2:U) (Ue:cp P f b2 ch (λa Tw=>a=r/\Tw=σ2)) (Y:be P f)
 |dl (b9 news:cr) (f:FuncId) (ch:List H) (r:H) (σ2:U) (Ue:cp P f [] ch (λa Tw=>a=r/\Tw=σ2)) (Y:be P f) (abh:mh σ2)
 |gs (qV:Bool) (ex:b7) (f:cr->Op->ag->U->Option (b8×b7)) (Ue:∀(o:Oper) (N:Nat) (ids:cr) (env:ag) (σ:U) (s:b8) (TK:b7),f ids o.op env σ=some (s,TK)->TK=ex->dL ⟨P,N,ids⟩ o env σ s)
 |ap (d2 sz bytes:Nat) (xs ys zs:List (List H)) (Ue:vz sz bytes xs ys zs)
 |ws (d2 sz:Nat) (xs:List (List H)) (a:Int) (zs:List (List H)) (Ue:j4 sz xs a xs.length zs)
 |sl (sz:Nat) (xs:List (List H)) (a b:Int) (zs:List (List H)) (Ue:j4 sz xs a b zs)
 |qr (n:Int) (Ue:n≠0)
 |sh (n:Int) (Ue:0<=n)
 |is (s:ByteArray) (n:Int) (b:UInt8) (Ue:0<=n/\s[n.toNat]?=some b)
 |lk (E:Nat) (k:IntKind) (bD:List (H×H)) (n:Int) (a:H) (b:Bool) (Ue:vB P E k bD n a b)
 |ko (k:IntKind) (bD:List (H×H)) (n:Int) (v:H) (XZ:List (H×H)) (Ue:sB k bD n v XZ)
 |lm (k:IntKind) (bD:List (H×H)) (n:Int) (Ue:vC k bD n)
 |uO (neg:Bool) (T:Nat) (a b:H) (r:Bool) (Ue:∀(x y:Operand) w,(do eqGuard (bif neg then .neq else .eql) T x y (valOf a) (valOf b);binOp (bif neg then .neq else .eql) T (valOf a) (valOf b):Sem Value).run P w=.ok (.bool r) w)
 |ni (neg:Bool) (a:H) (Ue:wM a)
 |s3 (sz:Nat) (xs:List (List H)) (a b:Int) (zs:List (List H)) (Ue:j4 sz xs a b zs)
 |pu (T aQ:Nat) (a r:H) (Ue:∀(o:Oper) (N:Nat) (ids:cr) (ev:Operand->H) (σ:U) (x:Operand),o.op=.convert T aQ x->ev x=a->Yields ⟨P,N,ids⟩ o ev σ [] [] r)
 |pb (op:BinOp) (T:Nat) (a b r:H) (Ue:∀(o:Oper) (N:Nat) (ids:cr) (ev:Operand->H) (σ:U) (x y:Operand) (aQ:Nat),o.op=.binOp op T x y aQ->ev x=a->ev y=b->Yields ⟨P,N,ids⟩ o ev σ [] [] r)
def Hint.exp{P:Program}:Hint P->b7
 |.td|.al _=>([],[])
 |.to h a _ _=>(a::h.exp.1,h.exp.2)
 |.ix _ xs i _ _=>([.bn false xs,.int .i64 i],[])
 |.lo d sz xs i off _ _=>([.bn false xs,.ptr d (i.toNat*sz+off)],[])
 |.so d sz xs i off O _ _ _ _=>([.bn false xs,.ptr d (i.toNat*sz+off),.agg O],[])
 |.rf f u ch _ _ _=>(.fn f u::ch,[])
 |.ro _ f σs ch _ _ _=>(.fn f []::ch,σs)
 |.le _ f ch _ _ _=>(.fn f []::ch,[])
 |.hU _ f C ch _ _ _ _=>(.fn f []::ch,C)
 |.dl _ _ f ch _ _ _ _ _=>(.fn f []::ch,[])
 |.gs _ ex _ _=>ex
 |.ap _ _ _ xs Q _ _=>([.bn false xs,.bn false Q],[])
 |.ws _ _ xs a _ _=>([.bn false xs,.int .i64 a],[])
 |.sl _ xs a b _ _=>([.bn false xs,.int .i64 a,.int .i64 b],[])
 |.qr n _|.sh n _=>([.int .i64 n],[])
 |.is s n _ _=>([.str s,.int .i64 n],[])
 |.lk _ _ q n _ _ _=>([.int .i64 n],[(0,.map 0 0 q)])
 |.ko _ q n v _ _=>([.int .i64 n,v],[(0,.map 0 0 q)])
 |.lm _ q _ _=>([],[(0,.map 0 0 q)])
 |.uO _ _ a b _ _=>([a,b],[])
 |.ni _ a _=>([a],[])
 |.s3 _ xs a b _ _=>([.bn false xs,.int .i64 a,.int .i64 b,.int .i64 b],[])
 |.pu _ _ a _ _=>([a],[])
 |.pb _ _ a b _ _=>([a,b],[])
mutual
def k6:H->H
 |.bn true xs=>.bn false xs
 |.az=>.bn false []
 |.agg cs=>.agg (zF cs)
 |a=>a
def zF:List H->List H
 |[]=>[]
 |x::r=>k6 x::zF r
end
mutual
def Cd{σ:U}:∀a:H,eX σ a (k6 a)
 |.bn true xs=>.full xs
 |.az=>.nil false
 |.agg cs=>.agg (Cx cs)
 |.bn false _|.c7|.undef|.int _ _|.bool _|.str _|.dR _|.fm|.fc|.own _|.ptr _ _|.b6 _|.cL _ _|.bP _|.fn _ _|.cz _ _|.dc _|.fH _|.arr _=>.refl _
def Cx{σ:U}:∀l:List H,hE σ l (zF l)
 |[]=>.nil
 |x::r=>.cons (Cd x) (Cx r)
end
variable {G:bG}{o:Oper}{σ:U}
def Yields.off{ev:Operand->H}{cA R:cr}{bI:H}(h:Yields G o (λx=>k6 (ev x)) σ cA R bI):Yields G o ev σ cA R bI:=
 λQ cx I β w u S q X C=>h Q cx I β w u S q X λx O=>(Cd (ev x)).rep q _ (C x O)
def eB.off{ev:Operand->H}{M news:cr}{Φ:H->U->Prop}(h:eB G o (λx=>k6 (ev x)) σ M news Φ):eB G o ev σ M news Φ:=
 λcx I β w u q C=>h cx I β w u q λx O=>(Cd (ev x)).rep q _ (C x O)
def sZ:List (Nat×H)->List (Nat×H)
 |[]=>[]
 |p::r=>(p.1,k6 p.2)::sZ r
def zG{ev:Operand->H}:∀l:List (Nat×Operand),sZ (l.map λp=>(p.1,ev p.2))=l.map λp=>(p.1,k6 (ev p.2))
 |[]=>rfl
 |p::r=>by simp only[List.map_cons,sZ,zG r]
mutual
def fk(b:cr)(σ:U):H->Option H
 |.own d=>bif b.contains d then some (.own d)else match σ.get d with
  |some (.slice _ _ xs _ true)=>some (.bn false xs)
  |some (.win _ _ xs)=>some (.bn false xs)
  |_=>none
 |.b6 d=>bif b.contains d then some (.b6 d)else match σ.get d with
  |some (.ic _ _ c)=>some (.dc c)
  |_=>some (.b6 d)
 |.az=>some (.bn false [])
 |.fc=>some (.bn false [])
 |.bn true xs=>some (.bn false xs)
 |.agg cs=>match no b σ cs with|none=>none|some l=>some (.agg l)
 |.bP cs=>match no b σ cs with|none=>none|some l=>some (.bP l)
 |.fn f cs=>match no b σ cs with|none=>none|some l=>some (.fn f l)
 |a=>some a
def no(a:cr)(σ:U):List H->Option (List H)
 |[]=>some []
 |x::r=>match fk a σ x with
  |none=>none
  |some b=>match no a σ r with
   |none=>none
   |some l=>some (b::l)
end
mutual
def kk{i:cr}{σ:U}:∀{a b:H},fk i σ a=some b->eX σ a b
 |.own d,b,h=>by
  simp only[fk]at h;cases g:i.contains d with
  |true=>rw[g]at h;simp only[cond_true,Option.some.injEq]at h;subst h;exact .refl _
  |false=>
   rw[g]at h;simp only[cond_false]at h;split at h
   .rename_i e;simp only[Option.some.injEq]at h;subst h;exact .own e
   .rename_i e;simp only[Option.some.injEq]at h;subst h;exact .win e
   .cases h
 |.b6 d,b,h=>by
  simp only[fk]at h;cases g:i.contains d with
  |true=>rw[g]at h;simp only[cond_true,Option.some.injEq]at h;subst h;exact .refl _
  |false=>
   rw[g]at h;simp only[cond_false]at h;split at h
   .rename_i e;simp only[Option.some.injEq]at h;subst h;exact .ic e
   .cases h;exact .refl _
 |.dc _,b,h|.fH _,b,h|.arr _,b,h=>by simp only[fk,Option.some.injEq]at h;subst h;exact .refl _
 |.az,b,h=>by simp only[fk,Option.some.injEq]at h;subst h;exact .nil false
 |.fc,b,h=>by simp only[fk,Option.some.injEq]at h;subst h;exact .fc
 |.bn true xs,b,h=>by simp only[fk,Option.some.injEq]at h;subst h;exact .full xs
 |.agg cs,b,h=>by
  simp only[fk]at h;split at h
  .cases h
  .rename_i j c;simp only[Option.some.injEq]at h;subst h;exact .agg (r1 c)
 |.bP cs,b,h=>by
  simp only[fk]at h;split at h
  .cases h
  .rename_i j c;simp only[Option.some.injEq]at h;subst h;exact .bP (r1 c)
 |.fn f cs,b,h=>by
  simp only[fk]at h;split at h
  .cases h
  .rename_i j c;simp only[Option.some.injEq]at h;subst h;exact .fn (r1 c)
 |.bn false _,b,h|.c7,b,h|.undef,b,h|.int _ _,b,h|.bool _,b,h|.str _,b,h|.dR _,b,h|.fm,b,h|.ptr _ _,b,h|.cL _ _,b,h|.cz _ _,b,h=>by
  simp only[fk,Option.some.injEq]at h;subst h;exact .refl _
def r1{e:cr}{σ:U}:∀{a b:List H},no e σ a=some b->hE σ a b
 |[],b,h=>by simp only[no,Option.some.injEq]at h;subst h;exact .nil
 |x::r,b,h=>by
  simp only[no]at h;split at h
  .cases h
  .rename_i a d;split at h
   .cases h
   .rename_i f c;simp only[Option.some.injEq]at h;subst h
    exact .cons (kk d) (r1 c)
end
def U.at(σ:U):cr->Option U
 |[]=>some []
 |d::r=>match σ.get d with
  |none=>none
  |some o=>match U.at σ r with
   |none=>none
   |some l=>some ((d,o)::l)
def atP{σ:U}:∀{b:cr} {l:U},σ.at b=some l->lB σ l/\l.ids=b
 |[],l,h=>by simp only[U.at,Option.some.injEq]at h;subst h;exact⟨trivial,rfl⟩
 |d::r,l,h=>by
  simp only[U.at]at h;split at h
  .cases h
  .rename_i o c;split at h
   .cases h
   .rename_i g f;simp only[Option.some.injEq]at h;subst h
    obtain⟨e,a⟩:=atP f;exact⟨⟨c,e⟩,by simp only[U.ids,List.map_cons]at a ⊢;rw[a]⟩
def jU(f:H->Option H):List H->Option (List H)
 |[]=>some []
 |x::r=>match f x with
  |none=>none
  |some a=>match jU f r with
   |none=>none
   |some l=>some (a::l)
def kF:Nat->U->H->Option H
 |0,_,_=>none
 |n+1,σ,a=>match a with
  |.own d=>(match σ.get d with|some (.slice _ _ xs _ _)=>some (.bn false xs)|some (.win _ _ xs)=>some (.bn false xs)|_=>none)
  |.ptr d p=>(match σ.get d with
   |some (.cells _ cs)=>(match jU (kF n σ) (cs.drop p)with|none=>none|some l=>some (.dR l))
   |_=>none)
  |.az=>some (.bn false [])
  |.bn true xs=>some (.bn false xs)
  |.agg cs=>(match jU (kF n σ) cs with|none=>none|some l=>some (.agg l))
  |.bP cs=>(match jU (kF n σ) cs with|none=>none|some l=>some (.bP l))
  |.fn f cs=>(match jU (kF n σ) cs with|none=>none|some l=>some (.fn f l))
  |.b6 d=>(match σ.get d with|some (.map _ _ b)=>some (.dc b)|some (.ic _ _ b)=>some (.dc b)|some (.eV _ _ _ _ b)=>some (.dc b)|_=>none)
  |.cz _ _=>none
  |.fc=>some (.bn false [])
  |a=>some a
def p0{f:H->Option H}{I J:aZ}{β:Nat->Value}(e:∀a b,f a=some b->∀v,au I β a v->aS J b v):∀{l m:List H},jU f l=some m->∀vs,br I β l vs->bJ J m vs
 |[],m,h,vs,c=>by simp only[jU,Option.some.injEq]at h;subst h;exact c
 |x::r,m,h,vs,c=>by
  simp only[jU]at h;split at h
  .cases h
  .rename_i a k;split at h
   .cases h
   .rename_i l j;simp only[Option.some.injEq]at h;subst h
    simp only[br]at c;obtain⟨g,d,rfl,n,i⟩:=c;exact⟨g,d,rfl,e x a k g n,p0 e j d i⟩
theorem zH{G:bG}{cx:c0}{I:aZ}{β:Nat->Value}{σ:U}{w:World}(j:bx G cx I β σ w):∀(n:Nat) (a b:H),kF n σ a=some b->∀v,au I β a v->aS (eA w) b v
 |0,a,b,h,_,_=>by cases h
 |n+1,a,b,h,v,c=>by
  have bp:bQ I (eA w):=j.AF;have L:=zH j n;cases a with
  |own d=>
   simp only[kF]at h;split at h
   .rename_i S ab D k aj g;cases h;simp only[au]at c;obtain⟨rfl,T⟩:=c;have e:=j.bO d _ g;simp only[bc]at e;simp only[aS];rcases e with i|⟨i,rfl,_⟩|⟨b,aM,arr,z,o,x,V,af,K,ae,_⟩
    .rw[i]at T;simp[fl]at T
    .grind
    .refine⟨_,aM,z,o,x,by simp,.inr ⟨b,0,rfl,?_⟩⟩;refine pQ D 0 _ (iI bp _ _ K) λZ v F=>?_;rw[Nat.zero_add];rw[List.getElem?_take]at F;split at F
     .simp only[eA,World.cell?,V]
      grind
     .cases F
   .rename_i S ab D g;cases h;exact hl bp _ _ (by simpa only[au]using j.win g c)
   .cases h
  |ptr d p=>
   simp only[kF]at h;split at h
   .rename_i S A g;split at h
    .cases h
    .rename_i M q;cases h;simp only[au]at c;obtain⟨X,W,rfl⟩:=c;obtain⟨arr,z,o,x,_⟩:=bx.box j g W;simp only[aS];refine⟨X,p,rfl,?_⟩;have:=p0 (J:=eA w) L q _ (rX p _ _ x);refine yT M p _ this λZ v F=>?_;simp only[eA,World.cell?,o]
     grind
   .cases h
  |az=>cases h;simp only[au,aS]at c ⊢;exact⟨none,0,c,by simp,by simp[maxLen],by simp,by simp⟩
  |bn f D=>
   have B:aS (eA w) (.bn f D) v:=hl bp _ _ (by simpa only[au]using c);cases f with
   |false=>cases h;exact B
   |true=>
    cases h;simp only[aS]at B ⊢;obtain⟨a,P,N,O,E,_,u⟩:=B;exact⟨a,P,N,O,E,by simp,u⟩
  |agg A=>
   simp only[kF]at h;split at h
   .cases h
   .rename_i M q;cases h
    simp only[au]at c;obtain⟨C,rfl,c⟩:=c;simp only[aS];exact⟨C,rfl,p0 L q _ c⟩
  |bP A=>
   simp only[kF]at h;split at h
   .cases h
   .rename_i M q;cases h
    simp only[au]at c;obtain⟨C,rfl,c⟩:=c;simp only[aS];exact⟨C,rfl,p0 L q _ c⟩
  |fn f A=>
   simp only[kF]at h;split at h
   .cases h
   .rename_i M q;cases h
    simp only[au]at c;obtain⟨C,rfl,c⟩:=c;simp only[aS];exact⟨C,rfl,p0 L q _ c⟩
  |b6 d=>
   have own:∀{r:Nat} {m:gl} {t:Nat} {l:List (H×H)},β d=.map (some r)->w.heap[r]?=some (.map m t)->dI I l m.toList->gQ m t->au I β (.b6 d) v->aS (eA w) (.dc l) v:=by
    intro r m t l B N O E u;simp only[au]at u;obtain⟨rfl,_⟩:=u;simp only[aS];exact⟨r,m,t,B,by simp only[eA,N],l3 bp _ _ O,E⟩
   have y:jd (β d)=true:=by simp only[au]at c;obtain⟨rfl,i⟩:=c;exact i
   simp only[kF]at h;split at h
   .rename_i R Q l g;cases h;have e:=j.bO d _ g;simp only[bc]at e;rcases e with i|⟨r,m,t,z,o,x,_,_,K⟩
    .rw[i]at y;simp[jd]at y
    .grind
   .rename_i R Q l g;cases h;have e:=j.bO d _ g;simp only[bc]at e;rcases e with i|⟨r,m,t,z,o,x,_,K⟩
    .rw[i]at y;simp[jd]at y
    .obtain⟨ah,ai,E,u⟩:=j.er r _ o;obtain⟨rfl,rfl⟩:=zn u
     grind
   .rename_i m t R Q l g;cases h;have e:=j.bO d _ g;simp only[bc]at e;rcases e with i|⟨r,z,o,x,_,_,K⟩
    .rw[i]at y;simp[jd]at y
    .grind
   .cases h
  |dc l=>cases h;exact hl bp _ _ (by simpa only[au]using c)
  |fH l=>cases h;exact hl bp _ _ (by simpa only[au]using c)
  |arr D=>cases h;exact hl bp _ _ (by simpa only[au]using c)
  |cz k d=>cases h
  |fc=>
   cases h;simp only[au,aS]at c ⊢;obtain⟨a,P,c,Y⟩:=c;exact⟨some a,P,c,by simp,Y,by simp,by simp⟩
  |cL f A=>cases h;exact hl bp _ _ (by simpa only[au]using c)
  |c7=>cases h;simp[aS]
  |undef=>cases h;exact hl bp _ _ (by simpa only[au]using c)
  |int k n=>cases h;exact hl bp _ _ (by simpa only[au]using c)
  |bool b=>cases h;exact hl bp _ _ (by simpa only[au]using c)
  |str s=>cases h;exact hl bp _ _ (by simpa only[au]using c)
  |dR A=>cases h;exact hl bp _ _ (by simpa only[au]using c)
  |fm=>cases h;exact hl bp _ _ (by simpa only[au]using c)
def oO(n:Nat)(σ:U)(a:H):Option H:=match kF n σ a with
 |some (.fn f l)=>some (.cL f l)
 |x=>x
variable {I:aZ}{β:Nat->Value}
def Eb{cx:c0}{w:World}(d:bx G cx I β σ w)(n:Nat)(a b:H)(h:oO n σ a=some b)(v:Value)(c:au I β a v):aS (eA w) b v:=by
 unfold oO at h;split at h
 .rename_i f g e;cases h;have:=zH d n a _ e v c;simpa only[aS]using this
 .exact zH d n a _ h v c
def bJ.A8:∀{l:List H} {vs:cR},bJ I l vs->br I β l vs:=λh=>bJ.rep β _ _ h
variable {VJ:Operand}{args:Array Operand}{ch ps:List H}{env:ag}{f:FuncId}{k:Array TypeId}{r:H}{σs:U}
def avk{aM:List H}(n:Nat)(h:o.op=.call ⟨.value VJ,args,k⟩)(s:env.ev VJ=.fn f aM)
    (M:∀(args:fz) (w:World),(callFunc f args).run G.P w=.ok (.enter f args) w) (aH:bB G.P f [] ch r) (z:env.iT args.toList=some ps) (P:jU (oO n σs) (ps++aM)=some ch) (x:lB σ σs)
    (y:r.fq=true):Yields G o env.ev σ [] σs.ids r:=by
  intro i R I β w t A g _ e;have d:=e VJ (by simp[h,Op.operands,Call.operands]);rw[s]at d;simp only[au]at d;obtain⟨ab,d,D⟩:=d;rw[vh h d M]
  have F:∀a o,σs.get a=some o->i.get a=some o:=λa o b=>by
    obtain⟨p,l,j,C⟩:=kr σs a o b;rw[A a (by rw[<-j];exact List.mem_map.2 ⟨p,l,rfl⟩),<-j,<-C];exact x.mem p l
  have mV:=g.sub F;have m:=kf _ _ _ _ (pZ env.ev t args.toList λW u=>e W (by simp only[h,Op.operands,Call.operands];simp;right;simpa using u)) D;rw[atZ z]at m;have N:=p0 (J:=eA w) (Eb mV n) P _ m
  have B:bx ⟨G.P,0,[]⟩ (hY (eA w) β [] w) (eA w) β [] w:=
    {good:=r0,er:=rW,e8:=bQ.refl _,eW:=λ_ _ _ _=>rfl,frame:=λ_ _ _=>rfl,size:=Nat.le_refl _,tape:=rfl,os:=rfl,output:=rfl,drawn:=Nat.le_refl _,
     bO:=λa o b=>by simp[U.get]at b,cq:=λa Y b=>by simp[U.get]at b,keep:=λa b=>by simp at b}
  refine Calls.mono (aH _ w (eA w) β _ B N.A8) ?_;rintro Z V ⟨q,S,T,af,X,ae,⟨O,E⟩,L,c⟩;subst O E;have K:bx G R I β i V:=g.stay (λQ v=>c.frame Q v (by simp[hY,m6,U.ids])) c.size c.tape c.os c.output c.drawn;exact⟨q,S,I,β,au.fq T q y L,K,bQ.refl I,λ_ _=>rfl⟩
mutual
def H.jf:H->Bool
 |.int _ _=>true
 |.bool _=>true
 |.str _=>true
 |.undef=>true
 |.own _=>true
 |.b6 _=>true
 |.bP cs=>sP cs
 |.agg cs=>sP cs
 |_=>false
def sP:List H->Bool
 |[]=>true
 |x::r=>x.jf&&sP r
end
mutual
def au.jf{I O:aZ}{β:Nat->Value}:∀(a:H) (v:Value),a.jf=true->au I β a v->au O β a v
 |.int _ _,v,_,h=>by simpa only[au,aS]using h
 |.bool _,v,_,h=>by simpa only[au,aS]using h
 |.str _,v,_,h=>by simpa only[au,aS]using h
 |.undef,v,_,h=>by simpa only[au,aS]using h
 |.own d,v,_,h=>by simpa only[au]using h
 |.b6 d,v,_,h=>by simpa only[au]using h
 |.bP cs,v,q,h=>by
  simp only[au,H.jf]at h q ⊢;obtain⟨vs,C,u⟩:=h;exact⟨vs,C,br.jf cs _ q u⟩
 |.agg cs,v,q,h=>by
  simp only[au,H.jf]at h q ⊢;obtain⟨vs,C,u⟩:=h;exact⟨vs,C,br.jf cs _ q u⟩
 |.c7,_,q,_|.bn _ _,_,q,_|.dR _,_,q,_|.fn _ _,_,q,_|.az,_,q,_|.fm,_,q,_|.ptr _ _,_,q,_|.cL _ _,_,q,_|.fc,_,q,_|.cz _ _,_,q,_=>by simp[H.jf]at q
def br.jf{I O:aZ}{β:Nat->Value}:∀(a:List H) (v:cR),sP a=true->br I β a v->br O β a v
 |[],v,_,h=>h
 |x::r,v,q,h=>by
  simp only[br,sP,Bool.and_eq_true]at h q ⊢;obtain⟨C,u,X,Q,S⟩:=h;exact⟨C,u,X,au.jf x C q.1 Q,br.jf r u q.2 S⟩
end
def mh.get:∀{σ:U} {d:Nat} {o:bY},mh σ->σ.get d=some o->AL o
 |[],_,_,_,h=>by simp[U.get]at h
 |(x,v)::r,d,o,C,h=>by
  obtain⟨p,O,_,S⟩:=kr ((x,v)::r) d o h;have:∀(σ:U),mh σ->∀p∈σ,AL p.2:=by
   intro σ;induction σ with
   |nil=>intro _ p u;simp at u
   |cons q r Q=>
    intro C p u;rcases List.mem_cons.1 u with rfl|u
    .exact C.1
    .exact Q C.2 p u
  rw[<-S];exact this _ C p O
def iw(e:eT α)(b:∀x,iR (e.enc x)=true)(l:List α):∀r∈af e l,iR r=true:=λr a=>by
 obtain⟨x,_,rfl⟩:=List.mem_map.1 a;exact b x
def Cy:∀{a b:List H},iR a=true->iR b=true->iR (a++b)=true
 |[],_,_,h=>h
 |x::r,b,c,d=>by
  simp only[List.cons_append,iR,Bool.and_eq_true]at c ⊢;exact⟨c.1,Cy c.2 d⟩
def Cz:∀{xs:List (List H)},(∀e∈xs,iR e=true)->iR xs.flatten=true
 |[],_=>rfl
 |x::r,h=>by
  rw[List.flatten_cons];exact Cy (h x (by simp)) (Cz λe a=>h e (by simp[a]))
mutual
def aS.fq{I O:aZ}:∀(a:H) (v:Value),a.fq=true->aS I a v->aS O a v
 |.int _ _,v,_,h=>by simpa only[aS]using h
 |.bool _,v,_,h=>by simpa only[aS]using h
 |.str _,v,_,h=>by simpa only[aS]using h
 |.undef,v,_,h=>by simpa only[aS]using h
 |.bP cs,v,q,h=>by
  simp only[aS,H.fq]at h q ⊢;obtain⟨vs,C,u⟩:=h;exact⟨vs,C,bJ.fq cs _ q u⟩
 |.agg cs,v,q,h=>by
  simp only[aS,H.fq]at h q ⊢;obtain⟨vs,C,u⟩:=h;exact⟨vs,C,bJ.fq cs _ q u⟩
 |.c7,_,q,_|.bn _ _,_,q,_|.dR _,_,q,_|.fn _ _,_,q,_|.az,_,q,_|.fm,_,q,_|.own _,_,q,_|.ptr _ _,_,q,_|.b6 _,_,q,_|.cL _ _,_,q,_|.fc,_,q,_|.cz _ _,_,q,_=>by simp[H.fq]at q
def bJ.fq{I O:aZ}:∀(a:List H) (v:cR),iR a=true->bJ I a v->bJ O a v
 |[],v,_,h=>h
 |x::r,v,q,h=>by
  simp only[bJ,iR,Bool.and_eq_true]at h q ⊢;obtain⟨C,u,X,Q,S⟩:=h;exact⟨C,u,X,aS.fq x C q.1 Q,bJ.fq r u q.2 S⟩
end
def dI.fq{I C:aZ}:∀(l:List (H×H)) (es:iq),(∀p∈l,p.1.fq=true/\p.2.fq=true)->dI I l es->dI C l es
 |[],es,_,h=>h
 |(k,v)::r,es,q,h=>by
  simp only[dI]at h ⊢;obtain⟨e,u,Y,Q,S,O⟩:=h;exact⟨e,u,Y,aS.fq k _ (q (k,v) (by simp)).1 Q,aS.fq v _ (q (k,v) (by simp)).2 S,dI.fq r u (λp X=>q p (by simp[X])) O⟩
def DP:∀σ:U,U.minus [] σ=σ
 |[]=>rfl
 |(d,o)::r=>by simp only[U.minus,List.contains_nil,cond_false,DP r]
theorem auM{aM:List H}{σ2:U}(n:Nat)(news:cr)(h:o.op=.call ⟨.value VJ,args,k⟩)(L:env.ev VJ=.fn f aM)
    (am:∀(args:fz) (w:World),(callFunc f args).run G.P w=.ok (.enter f args) w) (aH:cp G.P f [] ch (λa t=>a=r/\t=σ2)) (S:env.iT args.toList=some ps) (aC:jU (oO n σs) (ps++aM)=some ch) (Q:lB σ σs)
    (ax:news.all (λd=>!G.ids.contains d&&(σ.get d).isNone)=true) (ab:σ.clean news.contains=true) (R:r.jf=true) (aj:r.refs (λd=>!news.contains d)=false) (s:σ2.clean (λd=>!news.contains d)=true) (av:mh σ2) :
    eB G o env.ev σ news news (λa t=>a=r/\t=σ2++σ):=by
  intro aW I β w O m v;have p:=v VJ (by simp[h,Op.operands,Call.operands]);rw[L]at p;simp only[au]at p;obtain⟨a1,p,ai⟩:=p;rw[vh h p am]
  have mV:=m.sub (σ2:=σs) λd o e=>by
    obtain⟨aF,W,T,af⟩:=kr σs d o e;rw[<-T,<-af];exact Q.mem aF W
  have z:=kf _ _ _ _ (pZ env.ev O args.toList λaG P=>v aG (by simp only[h,Op.operands,Call.operands];simp;right;simpa using P)) ai;rw[atZ S]at z;have an:=p0 (J:=eA w) (Eb mV n) aC _ z
  have ae:bx ⟨G.P,0,[]⟩ (hY (eA w) β [] w) (eA w) β [] w:=
    {good:=r0,er:=rW,e8:=bQ.refl _,eW:=λ_ _ _ _=>rfl,frame:=λ_ _ _=>rfl,size:=Nat.le_refl _,tape:=rfl,os:=rfl,output:=rfl,drawn:=Nat.le_refl _,
     bO:=λd o e=>by simp[U.get]at e,cq:=λd aV e=>by simp[U.get]at e,keep:=λd e=>by simp at e}
  refine Calls.mono (aH _ w (eA w) β _ ae an.A8) ?_;rintro aX D ⟨l,aD,u,F,M,aI,⟨aq,ar⟩,ak,j⟩;subst aq ar;have A:∀b,b<w.heap.size->D.heap[b]?=w.heap[b]?:=λb c=>j.frame b c (by simp[hY,m6])
  have y:∀b,Place (hY (eA w) β [] w) b->w.heap.size<=b:=λb c=>by
    rcases c with c|c
    · exact c
    · simp[hY,m6]at c
  have aE:bx ⟨G.P,0,[]⟩ (hY I β [] w) (λb o=>if b<w.heap.size then I b o else M b o) aI F D:=
    {good:=λb o l i=>by
        by_cases c:b<w.heap.size
        · simp only[c,if_true]at i
          have h1:=m.good b o l i;rw[World.cell?_of_block (w:=w) (A b c)];exact h1
        · simp only[c,if_false]at i
          exact j.good b o l i
     er:=λb l i=>by
        by_cases c:b<w.heap.size
        · simp only[c,if_true]at i
          obtain⟨es,clock,h1,s⟩:=m.er b l i
          grind
        · simp only[c,if_false]at i
          exact j.er b l i
     e8:=λb o l i=>by
        have X:b<w.heap.size:=m.NV i;simp only[X,if_true];exact i
     eW:=λb c _ o=>by
        have c:b<w.heap.size:=c;simp only[c,if_true];rfl
     frame:=λb c _=>A b c
     size:=j.size,tape:=j.tape,os:=j.os,output:=j.output,drawn:=j.drawn
     bO:=λd o e=>by
        have q:=j.bO d o e;have g:=av.get e;cases o with
        |slice aJ a0 xs aQ aU=>
          simp only[bc]at q ⊢;rcases q with C|C|⟨b,aM,arr,TA,TB,TW,T1,Uj,UE,U6,Vn,VM,V6,Y⟩
          · grind
          · grind
          · have c:=y b Y
            have aw:¬b<w.heap.size:=by omega
            refine .inr (.inr ⟨b,aM,arr,TA,TB,TW,T1,Uj,bJ.fq _ _ (Cz g) UE,U6,Vn,?_,?_,.inl c⟩)
            all_goals grind
        |cells _ _=>exact absurd g id
        |map K E aT=>
          simp only[bc]at q ⊢;rcases q with C|⟨r,es,clock,TA,TB,TW,T1,Uj,UE⟩
          · grind
          · have c:=y r Uj
            have aw:¬r<w.heap.size:=by omega
            refine .inr ⟨r,es,clock,TA,TB,dI.fq _ _ g TW,λo=>?_,.inl c,UE⟩
            grind
        |win _ _ _=>exact absurd g id
        |ic _ _ _=>exact absurd g id
        |eV _ _ _ _ _=>exact absurd g id
        |iter _ _ _ _=>exact absurd g id
        |hdr _ _=>exact absurd g id
        |cE _=>exact absurd g id
        |fA _ _ _ _=>exact absurd g id
        |lu _ _ _ _ _ _=>exact absurd g id
        |ew _ _ _ _ _ _=>exact absurd g id
        |l9 _ _ _=>exact absurd g id
        |vec _ _=>exact absurd g id
        |oM _ _ _ _=>exact absurd g id
        |dD _ _ _ _ _ _=>exact absurd g id
     cq:=j.cq,keep:=λd e=>by simp at e}
  have ao:∀d∈news,d∉G.ids/\σ.get d=none:=λd e=>by
    have:=List.all_eq_true.1 ax d e;simpa using this
  have B:σ.minus (U.ids [])=σ:=DP σ;obtain⟨x,V,Z⟩:=m.after (b2:=[]) (by simp) aE news ao (by rw[B];exact ab) (by simpa [U.ids]using s);rw[B]at x;refine⟨l,aD,u,_,_,_,⟨rfl,rfl⟩,Z u l (by simpa [U.ids]using aj) (au.jf u l R ak),x,V,λd e=>by simp[e],λd e=>?_⟩;rw[atX];cases N:F.get d with
  |some ah=>
    have:=(atF s d ah N).1;have:news.contains d=true:=by rw[<-Bool.not_eq_false'];exact this
    exact absurd (List.contains_iff_mem.1 this) e
  |none=>rfl
def wN(op:BinOp)(k:IntKind)(m n:Int):Option H:=match op with
 |.add=>some (.int k (k.wrap (m+n)))
 |.sub=>some (.int k (k.wrap (m-n)))
 |.mul=>some (.int k (k.wrap (m*n)))
 |.lss=>some (.bool (decide (m<n)))
 |.leq=>some (.bool (decide (m<=n)))
 |.gtr=>some (.bool (decide (n<m)))
 |.geq=>some (.bool (decide (n<=m)))
 |.eql=>some (.bool (decide (m=n)))
 |.neq=>some (.bool (!decide (m=n)))
 |.and=>some (.int k (fh .and k m n))
 |.or=>some (.int k (fh .or k m n))
 |.xor=>some (.int k (fh .xor k m n))
 |.andNot=>some (.int k (fh .andNot k m n))
 |_=>none
def Gf(bm:eb)(env:ag)(σ:U)(c:Call):Option (cr×H):=match c.callee with
 |.builtin b=>(match b with
  |.len=>(match c.args.toList with
   |[x]=>(match c.argTypes.toList with
    |[e]=>(match bm.get e with
     |some ⟨_,_,_,.slice _ _ _ _⟩=>(match env.cc x with
      |some (.bn _ a)=>some ([],.int .i64 (a.length:Int))
      |some .az=>some ([],.int .i64 0)
      |some (.own d)=>(match σ.get d with|some (.slice _ _ a _ _)=>some ([d],.int .i64 (a.length:Int))|some (.win _ _ a)=>some ([d],.int .i64 (a.length:Int))|_=>none)
      |_=>none)
     |some ⟨_,_,_,.str⟩=>(match env.cc x with|some (.str f)=>some ([],.int .i64 (f.size:Int))|_=>none)
     |_=>none)
    |_=>none)
   |_=>none)
  |.min=>(match c.args.toList with
   |[x,y]=>(match env.cc x with
    |some (.int k m)=>(match env.cc y with|some (.int _ n)=>some ([],.int k (if n<m then n else m))|_=>none)
    |_=>none)
   |_=>none)
  |.max=>(match c.args.toList with
   |[x,y]=>(match env.cc x with
    |some (.int k m)=>(match env.cc y with|some (.int _ n)=>some ([],.int k (if n>m then n else m))|_=>none)
    |_=>none)
   |_=>none)
  |_=>none)
 |_=>none
def Bo(bm:eb)(env:ag)(σ:U):Op->Option (cr×H)
 |.move x|.assign x=>match env.cc x with|none=>none|some a=>some ([],a)
 |.pick c x y=>match env.cc c with
  |some (.bool true)=>(match env.cc x with|none=>none|some a=>some ([],a))
  |some (.bool false)=>(match env.cc y with|none=>none|some a=>some ([],a))
  |_=>none
 |.fieldAddr e x f=>match bm.get e with
  |some ⟨_,_,_,.struct _ g _⟩=>(match g[f]? with
   |none=>none
   |some (off,_)=>match env.cc x with
    |some (.ptr d p)=>some ([],.ptr d (p+off))
    |some (.dR cs)=>(match spine (cs.drop off)with|none=>none|some l=>some ([],.dR l))
    |_=>none)
  |_=>none
 |.field e x f=>match bm.get e with
  |some ⟨_,_,_,.struct _ g o⟩=>(match g[f]? with
   |none=>none
   |some (off,n)=>match o[f]? with
    |none=>none
    |some r=>match env.cc x with
     |some (.agg cs)=>bif Nat.ble (off+n) cs.length then(match iy r n (cs.drop off)with|none=>none|some a=>some ([],a))else none
     |_=>none)
  |_=>none
 |.load e x=>match bm.get e with
  |none=>none
  |some i=>match env.cc x with
   |some (.ptr d p)=>(match σ.get d with
    |some (.cells _ cs)=>bif (i.bU||Nat.blt 0 i.sz)&&Nat.ble (p+i.sz) cs.length then(match iy i.bU i.sz (cs.drop p)with|none=>none|some a=>some ([d],a))else none
    |_=>none)
   |some (.dR cs)=>bif (i.bU||Nat.blt 0 i.sz)&&Nat.ble i.sz cs.length then(match iy i.bU i.sz cs with|none=>none|some a=>some ([],a))else none
   |_=>none
 |.binOp op e x y _=>match env.cc x with
  |some (.int k m)=>(match env.cc y with
   |some (.int h n)=>bif decide (k=h)then(match wN op k m n with|none=>none|some a=>some ([],a))else none
   |_=>none)
  |some (.bool a)=>(match bm.get e with
   |some ⟨_,_,_,.bool⟩=>(match env.cc y with
    |some (.bool b)=>(match op with
     |.eql=>some ([],.bool (a==b))
     |.neq=>some ([],.bool (!(a==b)))
     |_=>none)
    |_=>none)
   |_=>none)
  |_=>none
 |.unOp op _ x=>match op with
  |.not=>(match env.cc x with|some (.bool b)=>some ([],.bool (!b))|_=>none)
  |.neg=>(match env.cc x with|some (.int k n)=>some ([],.int k (k.wrap (0-n)))|_=>none)
  |_=>none
 |.convert e q x=>match bm.get e with
  |some ⟨_,_,_,.int _⟩=>(match bm.get q with
   |some ⟨_,_,_,.int h⟩=>(match env.cc x with|some (.int _ n)=>some ([],.int h (h.wrap n))|_=>none)
   |_=>none)
  |_=>none
 |.extract x s=>match env.cc x with
  |some (.bP t)=>(match t[s]? with|none=>none|some a=>some ([],a))
  |_=>none
 |.nilCheck x=>match env.cc x with
  |some (.ptr d p)=>some ([],.ptr d p)
  |some (.dR cs)=>some ([],.dR cs)
  |_=>none
 |.build e parts=>match bm.get e with
  |some ⟨_,_,_,.struct u g _⟩=>(match env.lz parts.toList with
   |none=>none
   |some ps=>match qz g (jb u) ps with|none=>none|some cs=>some ([],.agg cs))
  |_=>none
 |.buildSlice e len parts=>match bm.get e with
  |some ⟨_,_,_,.slice _ j _ _⟩=>bif Nat.beq parts.size len&&(Nat.ble (len*j) 65536&&Nat.ble len 65536)then(match env.lz parts.toList with
   |none=>none
   |some ps=>match m7 j 0 (sZ ps)with
    |none=>none
    |some xs=>bif g7 xs.flatten then some ([],.bn true xs)else none)else none
  |_=>none
 |.makeFunc fn first aM=>match fn with
  |.func f=>(match first.toList with
   |[]=>(match env.iT aM.toList with|none=>none|some l=>some ([],.fn f l))
   |_=>none)
  |_=>none
 |.call c=>Gf bm env σ c
 |_=>none
end
section
section
variable {P:Program}{N:Nat}{ids:cr}{bm:eb}{o:Oper}{env:ag}{σ:U}
variable {G:bG}{T:TypeId}{k:IntKind}{x:Operand}
def avp{ev:Operand->H}{n:Int}(h:o.op=.unOp .neg T x)(c:ev x=.int k n):Yields G o ev σ [] [] (.int k (k.wrap (0-n))):=
 .pure λ_ _ d g f e _ _ b=>by
  have a:=b x (by simp[h,Op.operands]);rw[c]at a;have a:=fB a
  exact⟨.int k (k.wrap (0-n)),by simp only[execOp,h,a,Op.unary,Op.intArith];rfl,by simp[au,aS]⟩
variable {aQ:TypeId}{m:Int}
def avq{ev:Operand->H}{y:Operand}{n:Int}(h:o.op=.binOp .quo T x y aQ)(a:ev x=.int k m)(b:ev y=.int k n)(c:n≠0):Yields G o ev σ [] [] (.int k (k.wrap (m.tdiv n))):=
 bC.int h a b (by decide) (λd=>by simp[Op.intDiv,c];rfl) (λ_ _=>by simp only[au,aS])
def p8(xs:List (List H)):xs.map id=xs:=List.map_id xs
theorem auT{o:Oper}{ev:Operand->H}{σ:U}{T E sz len d:Nat}{parts:Array (Nat×Operand)}{ab:cR}{xs:List (List H)}(h:o.op=.buildSlice T len parts)(q:o2 G.P T E sz ab)(B:parts.size=len)(af:len*sz<=65536/\len<=65536)
  (C:l8 sz 0 (parts.toList.map λp=>(p.1,ev p.2))=some xs) (O:g7 xs.flatten=true) (hi:G.ids.contains d=false):Yields G o ev ((d,.slice E sz xs 0 false)::σ) [d] [d] (.own d):=by
 intro ah am I β b g J n Y D;have X:∀p∈parts.toList,au I β (ev p.2) (g p.2):=λp F=>D p.2 (by simp only[h,Op.operands];simpa using ⟨p.1,by simpa using F⟩);obtain⟨m,N,aj⟩:=q.zero b
 let a:fz:=(Array.range (len*sz)).map ((if len*sz=0 then #[]else m.cells)[·%(if len*sz=0 then #[]else m.cells:fz).size]!)
 have R:a.size=len*sz:=by simp[a]
 obtain⟨l,t,K,ai,ak,u,Q,P⟩:=yz (I:=I) (β:=β) sz (parts.toList.map λp=>(p.1,ev p.2)) (parts.toList.map λp=>(p.1,g p.2)) 0 a xs
  ⟨by simp,λZ p an c i=>by
   simp only[List.getElem?_map]at c i;cases e:parts.toList[Z]? with
   |none=>rw[e]at c;cases c
   |some y=>
    rw[e]at c i;simp only[Option.map_some,Option.some.injEq]at c i;subst c i;exact⟨rfl,X y (List.mem_of_getElem? e)⟩⟩ C (by simp[R,B])
 have w:l.toList=t:=by simp_all
 have v:xs.length=len:=by rw[P];simp[B]
 have L:(execOp g o).run G.P b=.ok (.value (.slice (some ⟨b.heap.size,0,none⟩) len len)) (b.alloc (.cells l E)):=by
  have V:¬(len*sz>2 ^ 24):=by have:(2:Nat) ^ 24=16777216:=by decide
                              omega
  have f:Instr.fill (λs=>some (s*sz,sz)) a (parts.map λ(s,x)=>(s,g x)).toList=some l:=by simpa using K
  simp only[execOp,h,Instr.buildSlice,Sem.run_bind,run_underlying q.en,q.size,Result.andThen_ok,V,if_false];by_cases k:len*sz=0
  .have r:a=(Array.range (len*sz)).map ((#[]:fz)[·%(#[]:fz).size]!):=by simp only[a,k,if_true]
   rw[r]at f;simp only[k,if_true,Sem.run_bind,Sem.run_pure,Result.andThen_ok]at f ⊢;simp only[f];simp[newRow]
  .have r:a=(Array.range (len*sz)).map (m.cells[·%m.cells.size]!):=by simp only[a,k,if_false]
   rw[r]at f;simp only[k,if_false,Sem.run_bind,N,Sem.run_pure,Result.andThen_ok];simp only[f];simp[newRow]
 rw[L];have M:=Y d (by simp);have z:=Q;have S:=l0 xs z;have A:t.length=xs.length*sz:=by rw[j9 _ _ u,S]
 refine⟨I,e4 β d (.slice (some ⟨b.heap.size,0,none⟩) len len),by simp only[au];exact⟨(eH _ _ _).symm,rfl⟩,?_,bQ.refl I,λx e=>e0 β _ (λW=>e (by simp[W]))⟩;refine n.real (by simpa using hi) M rfl λae j=>?_;rw[J d (by simp),atw,if_pos rfl]at j;injection j with j
 subst j;simp only[bc,eH];refine .inr (.inr ⟨b.heap.size,len,l,by rw[v],by omega,by simp only[maxLen];omega,heap_alloc_new b _,?_,?_,z,by omega,(λh=>by cases h),λo _=>n.gu (Nat.le_refl _) o,.inl n.size⟩)
 .rw[<-Array.length_toList,w,A,v]
 .rw[w,List.take_of_length_le (by rw[A];exact Nat.le_refl _)];exact br.closed _ _ O u
def ava{ev:Operand->H}{e:Operand}{args:Array Operand}{k:Array TypeId}{f:FuncId}{aM q:List H}{σs:U}{r:H}(h:o.op=.call ⟨.value e,args,k⟩)(u:ev e=.cL f aM)
  (N:∀(args:fz) (w:World),(callFunc f args).run G.P w=.ok (.enter f args) w) (A:∀p∈σs,σ.get p.1=some p.2) (R:hE σs (args.toList.map ev) q)
  (aH:bB G.P f [] (q++aM) r) (B:r.closed=true):Yields G o ev σ [] σs.ids r:=by
 intro l S t c w v C d _ j;have b:=j e (by simp[h,Op.operands,Call.operands]);rw[u]at b;simp only[au,aS]at b;obtain⟨ab,b,I⟩:=b;rw[vh h b N]
 have K:∀a o,σs.get a=some o->l.get a=some o:=λa o g=>by
  obtain⟨p,n,m,F⟩:=kr σs a o g;rw[C a (by rw[<-m];exact List.mem_map.2 ⟨p,n,rfl⟩),<-m,<-F];exact A p n
 have mV:=d.sub K;have M:=pZ ev v args.toList λx y=>j x (by simp only[h,Op.operands,Call.operands];simp;right;simpa using y);have O:=kf _ _ _ _ (R.rep mV _ M) (bJ.rep c _ _ I);have D:=d.j3 (P:=G.P) (b2:=[]) (by simp);refine Calls.mono (aH _ w t c _ D O) ?_;rintro Z X ⟨s,V,W,af,i,ae,⟨Q,J⟩,L,E⟩;subst Q J;obtain⟨T,z,Y⟩:=d.after (b2:=[]) (by simp) E [] (by simp) (auh _) rfl;refine⟨s,V,i,c,?_,?_,z,λ_ _=>rfl⟩
 .exact aS.rep c _ _ (au.closed W s B L)
 .refine({T with}:bx G S i c ([]++l.minus (U.ids [])) X).sub λa o g=>?_;rw[atX,atE];simpa [U.get,U.ids]using g
variable {Vh:IntKind}{gK:Array TypeId}
def avn{ev:Operand->H}{y:Operand}{n:Int}(h:o.op=.call ⟨.builtin .min,#[x,y],gK⟩)(d:ev x=.int k m)(e:ev y=.int Vh n):Yields G o ev σ [] [] (.int k (if n<m then n else m)):=
 .pure λ_ _ f j i g _ _ c=>by
  have b:=c x (by simp[h,Op.operands,Call.operands]);rw[d]at b;have b:=fB b
  have a:=c y (by simp[h,Op.operands,Call.operands]);rw[e]at a;have a:=fB a
  exact⟨.int k (if n<m then n else m),by simp[execOp,h,resolve,invoke,builtin,Builtin.min_,Builtin.min2,b,a],by simp[au,aS]⟩
def avi{ev:Operand->H}{y:Operand}{n:Int}(h:o.op=.call ⟨.builtin .max,#[x,y],gK⟩)(d:ev x=.int k m)(e:ev y=.int Vh n):Yields G o ev σ [] [] (.int k (if n>m then n else m)):=
 .pure λ_ _ f j i g _ _ c=>by
  have b:=c x (by simp[h,Op.operands,Call.operands]);rw[d]at b;have b:=fB b
  have a:=c y (by simp[h,Op.operands,Call.operands]);rw[e]at a;have a:=fB a
  exact⟨.int k (if n>m then n else m),by simp[execOp,h,resolve,invoke,builtin,Builtin.max_,Builtin.max2,b,a],by simp[au,aS]⟩
def Ms{op:BinOp}{y:Operand}{n:Int}{a:H}(h:o.op=.binOp op T x y aQ)(b:env.ev x=.int k m)(c:env.ev y=.int k n)(d:wN op k m n=some a):Yields ⟨P,N,ids⟩ o env.ev σ [] [] a:=by
 cases op<;>simp only[wN,Option.some.injEq]at d<;>first|cases d|skip
 all_goals (try subst d)
 .exact auV h b c
 .exact avm h b c
 .exact avo h b c
 .exact bC.and h b c
 .exact bC.or h b c
 .exact bC.xor h b c
 .exact bC.andNot h b c
 .exact bC.eql h b c
 .exact bC.neq h b c
 .exact bC.lss h b c
 .exact bC.leq h b c
 .exact bC.gtr h b c
 .exact bC.geq h b c
theorem NY(W:fe P bm){R:cr}{bI:H}(h:Bo bm env σ o.op=some (R,bI)):Yields ⟨P,N,ids⟩ o env.ev σ [] R bI:=by
 cases b:o.op<;>rw[b]at h<;>simp only[Bo]at h
 case move x=>
  cases a:env.cc x with
  |none=>rw[a]at h;cases h
  |some p=>rw[a]at h;cases h;rw[<-atu a];exact bC.move b
 case assign x=>
  cases a:env.cc x with
  |none=>rw[a]at h;cases h
  |some p=>rw[a]at h;cases h;rw[<-atu a];exact bC.assign b
 case pick c x y=>
  split at h
  .rename_i t;cases a:env.cc x with
   |none=>rw[a]at h;cases h
   |some p=>rw[a]at h;cases h;rw[<-atu a];exact au6 b (atu t) rfl
  .rename_i t;cases a:env.cc y with
   |none=>rw[a]at h;cases h
   |some p=>rw[a]at h;cases h;rw[<-atu a];exact au7 b (atu t) rfl
  .cases h
 case fieldAddr T x I=>
  split at h
  .rename_i af Y V aj Z M f;split at h
   .cases h
   .rename_i z q l;have d:=(e9.get W.tys f).kd;simp only[gU]at d;split at h
    .rename_i G A a;cases h;exact auZ b (atu a) (d.2.1 _ _ _ l)
    .rename_i i a;cases g:spine (i.drop z)with
     |none=>rw[g]at h;cases h
     |some ab=>rw[g]at h;cases h;rw[<-l4 g];exact au1 b (atu a) (d.2.1 _ _ _ l)
    .cases h
  .cases h
 case field T x I=>
  split at h
  .rename_i af Y V aj Z M f;split at h
   .cases h
   .rename_i z q l;split at h
    .cases h
    .rename_i S U;have d:=(e9.get W.tys f).kd;simp only[gU]at d;split at h
     .rename_i i a;cases e:Nat.ble (z+q) i.length with
      |false=>rw[e]at h;cases h
      |true=>
       rw[e]at h;simp only[cond_true]at h;cases g:iy S q (i.drop z)with
       |none=>rw[g]at h;cases h
       |some p=>rw[g]at h;cases h;exact bb.field b (atu a) (d.2.2 _ _ _ _ l U) e g
     .cases h
  .cases h
 case load T x=>
  split at h
  .cases h
  .rename_i n f;have d:=(e9.get W.tys f).ty;split at h
   .rename_i G A a;split at h
    .rename_i aQ i v;cases e:((n.bU||Nat.blt 0 n.sz)&&Nat.ble (A+n.sz) i.length)with
     |false=>rw[e]at h;cases h
     |true=>
      rw[e]at h;simp only[cond_true]at h;simp only[Bool.and_eq_true]at e;cases g:iy n.bU n.sz (i.drop A)with
      |none=>rw[g]at h;cases h
      |some p=>rw[g]at h;cases h;exact avv b (atu a) d v e.1 e.2 g
    .cases h
   .rename_i i a;cases e:((n.bU||Nat.blt 0 n.sz)&&Nat.ble n.sz i.length)with
    |false=>rw[e]at h;cases h
    |true=>
     rw[e]at h;simp only[cond_true]at h;simp only[Bool.and_eq_true]at e;cases g:iy n.bU n.sz i with
     |none=>rw[g]at h;cases h
     |some p=>rw[g]at h;cases h;exact avs b (atu a) d e.1 e.2 g
   .cases h
 case binOp op T x y aQ=>
  split at h
  .rename_i k m a;split at h
   .rename_i Vh q r;cases E:decide (k=Vh)with
    |false=>rw[E]at h;cases h
    |true=>
     rw[E]at h;simp only[cond_true]at h;have:=of_decide_eq_true E;subst this;cases e:wN op k m q with
     |none=>rw[e]at h;cases h
     |some p=>rw[e]at h;cases h;exact Ms b (atu a) (atu r) e
   .cases h
  .rename_i p a;split at h
   .rename_i f;have d:=(e9.get W.tys f).kd;simp only[gU]at d;split at h
    .rename_i K r;split at h
     .cases h;exact ave b (atu a) (atu r) d
     .cases h;exact avd b (atu a) (atu r) d
     .cases h
    .cases h
   .cases h
  .cases h
 case unOp op T x=>
  split at h
  .split at h
   .rename_i K a;cases h;exact bC.not b (atu a)
   .cases h
  .split at h
   .rename_i k q a;cases h;exact avp b (atu a)
   .cases h
  .cases h
 case convert T aQ x=>
  split at h
  .rename_i f;split at h
   .rename_i Vh Q;split at h
    .rename_i k q a;cases h
     have L:=(e9.get W.tys f).kd;have J:=(e9.get W.tys Q).kd;simp only[gU]at L J;exact bC.convert b (atu a) ⟨_,L⟩ J
    .cases h
   .cases h
  .cases h
 case extract x j=>
  split at h
  .rename_i ai a;cases B:ai[j]? with
   |none=>rw[B]at h;cases h
   |some p=>rw[B]at h;cases h;exact bC.extract b (atu a) B
  .cases h
 case nilCheck x=>
  split at h
  .rename_i G A a;cases h;exact auU b (atu a)
  .rename_i i a;cases h;exact auS b (atu a)
  .cases h
 case build T parts=>
  split at h
  .rename_i f;have d:=(e9.get W.tys f).kd;simp only[gU]at d;split at h
   .cases h
   .rename_i ae C;split at h
    .cases h
    .rename_i i l;cases h;exact bb.build b d.1 C l
  .cases h
 case buildSlice T len parts=>
  split at h
  .rename_i f;have d:=(e9.get W.tys f).kd;simp only[gU]at d
   replace h:=dX h;obtain⟨e,h⟩:=h
   rw[Bool.and_eq_true]at e;split at h
   .cases h
   .rename_i ae C;split at h
    .cases h
    .rename_i w l;cases t:g7 w.flatten with
     |false=>rw[t]at h;cases h
     |true=>rw[t]at h;cases h;exact(bC.buildSlice b d.2.2 (by simpa using e.1) (by simpa using e.2) (by rw[<-zG,at0 C];exact uP _ l) t).off
  .cases h
 case makeFunc fn first aM=>
  split at h
  .rename_i I;split at h
   .rename_i l;split at h
    .cases h
    .rename_i ab X;cases h
     have:first=#[]:=by simpa using l
     subst this;exact bb.makeFunc b X
   .cases h
  .cases h
 case call c=>
  obtain⟨ak,args,ah⟩:=c;simp only[Gf]at h;split at h
  .rename_i K;split at h
   .split at h
    .rename_i x u;have:args=#[x]:=Array.toList_inj.1 (by simpa using u);subst this;split at h
     .rename_i T O;have:ah=#[T]:=Array.toList_inj.1 (by simpa using O);subst this;split at h
      .rename_i f;have d:=(e9.get W.tys f).kd;simp only[gU]at d;split at h
       .rename_i I w a;cases h;exact aut (rs:=w) (enc:=id) b rfl (by rw[p8];exact atu a) d.1.en
       .rename_i a;cases h;exact avg b rfl (atu a) d.1.en
       .rename_i G a;split at h
        .rename_i v;cases h;exact auR (enc:=id) b rfl (atu a) (by rw[p8];exact v) d.1.en
        .rename_i w v;cases h;exact Yields.win v (aut (rs:=w) (enc:=id) b rfl (by rw[p8];exact DO (atu a)) d.1.en)
        .grind
       .cases h
      .rename_i f;have d:=(e9.get W.tys f).kd;simp only[gU]at d;split at h
       .rename_i s a;cases h;exact avh b rfl (atu a) d
       .cases h
      .cases h
     .cases h
    .cases h
   .split at h
    .rename_i F D u;have:args=#[F,D]:=Array.toList_inj.1 (by simpa using u);subst this;split at h
     .rename_i k m a;split at h
      .rename_i Vh q r;cases h;exact avn b (atu a) (atu r)
      .cases h
     .cases h
    .cases h
   .split at h
    .rename_i F D u;have:args=#[F,D]:=Array.toList_inj.1 (by simpa using u);subst this;split at h
     .rename_i k m a;split at h
      .rename_i Vh q r;cases h;exact avi b (atu a) (atu r)
      .cases h
     .cases h
    .cases h
   .cases h
  .cases h
 all_goals cases h
end
end
section
def oP(env:ag)(c:Call):Option (FuncId×List H):=match c.callee with
 |.value a=>(match env.cc a with
  |some (.fn f aM)=>(match env.iT c.args.toList with|none=>none|some b=>some (f,b++aM))
  |_=>none)
 |_=>none
def va{env:ag}{c:Call}{f:FuncId}{b:List H}(h:oP env c=some (f,b)):∃a args k aM ps,c=⟨.value a,args,k⟩/\env.ev a=.fn f aM/\env.iT args.toList=some ps/\b=ps++aM:=by
 obtain⟨i,args,k⟩:=c;simp only[oP]at h;split at h
 .rename_i a;split at h
  .rename_i g aM d;split at h
   .cases h
   .rename_i ps e;cases h
    exact⟨a,args,k,aM,ps,rfl,atu d,e,rfl⟩
  .cases h
 .cases h
def AM(env:ag)(c:Call):Option (FuncId×List H×List H):=match c.callee with
 |.value a=>(match env.cc a with
  |some (.cL f aM)=>(match env.iT c.args.toList with|none=>none|some b=>some (f,b,aM))
  |_=>none)
 |_=>none
def K5{env:ag}{c:Call}{f:FuncId}{b d:List H}(h:AM env c=some (f,b,d)):∃a args k,c=⟨.value a,args,k⟩/\env.ev a=.cL f d/\env.iT args.toList=some b:=by
 obtain⟨j,args,k⟩:=c;simp only[AM]at h;split at h
 .rename_i a;split at h
  .rename_i i aM e;split at h
   .cases h
   .rename_i l g;cases h
    exact⟨a,args,k,rfl,atu e,g⟩
  .cases h
 .cases h
def A9:H->Option H
 |.fn f l=>bif g7 l then some (.cL f l)else none
 |a=>some a
def Me{σ:U}{a b c:H}(h:eX σ a b)(d:A9 b=some c):eX σ a c:=by
 cases b<;>simp only[A9,Option.some.injEq]at d<;>first|(subst d;exact h)|skip
 rename_i f g;cases e:g7 g with
 |false=>rw[e]at d;cases d
 |true=>rw[e]at d;cases d;exact .cL h e
def qm(σ:U):Nat->List H->Option (List H)
 |_,[]=>some []
 |m,x::r=>match(bif Nat.beq (m%2) 1 then some x else match fk [] σ x with|none=>none|some a=>A9 a)with
  |none=>none
  |some a=>match qm σ (m / 2) r with
   |none=>none
   |some l=>some (a::l)
def zI{σ:U}:∀{m:Nat} {a b:List H},qm σ m a=some b->hE σ a b
 |m,[],b,h=>by simp only[qm,Option.some.injEq]at h;subst h;exact .nil
 |m,x::r,b,h=>by
  simp only[qm]at h;split at h
  .cases h
  .rename_i a c;split at h
   .cases h
   .rename_i i f;simp only[Option.some.injEq]at h;subst h
    refine .cons ?_ (zI f);cases d:Nat.beq (m%2) 1 with
    |true=>rw[d]at c;cases c;exact .refl _
    |false=>
     rw[d]at c;simp only[cond_false]at c;split at c
     .cases c
     .rename_i g e;exact Me (kk e) c
def kP(env:ag)(d:Int):Option Operand->gA
 |none=>some d
 |some x=>match env.cc x with|some (.int _ n)=>some n|_=>none
def As{env:ag}{x:Option Operand}{n:Int}(h:kP env 0 x=some n):oy env.ev x/\hg env.ev x=n:=by
 cases x with
 |none=>simp only[kP,Option.some.injEq]at h;exact⟨trivial,h⟩
 |some x=>
  simp only[kP]at h;split at h
  .rename_i k b a;cases h;exact⟨⟨k,_,atu a⟩,by simp only[hg,atu a]⟩
  .cases h
def Au{env:ag}{l:Nat}{x:Option Operand}{n:Int}(h:kP env (l:Int) x=some n):oy env.ev x/\kO env.ev l x=n:=by
 cases x with
 |none=>simp only[kP,Option.some.injEq]at h;exact⟨trivial,h⟩
 |some x=>
  simp only[kP]at h;split at h
  .rename_i k b a;cases h;exact⟨⟨k,_,atu a⟩,by simp only[kO,atu a]⟩
  .cases h
def BZ(env:ag)(σ:U)(bm:eb):Op->Option b8
 |.store c x y=>match bm.get c with
  |none=>none
  |some i=>match env.cc x with
   |some (.ptr d p)=>(match env.cc y with
    |none=>none
    |some a=>match σ.get d with
     |some (.cells e cs)=>(match kA a with
      |none=>none
      |some b=>bif a.flat&&Nat.beq b.length i.sz&&Nat.ble (p+i.sz) cs.length then(match spine (e3 cs p b)with
       |none=>none
       |some f=>some (.e [d] [] .undef (σ.set d (.cells e f))))else none)
     |_=>none)
   |_=>none
 |_=>none
def nM(bm:eb)(ids:cr)(env:ag)(d:Nat):Op->Option b8
 |.alloc b=>match bm.get b with
  |some ⟨_,_,some zs,_⟩=>(match spine (jb zs)with|none=>none|some cs=>bif !ids.contains d then some (.v d (.cells b cs) (.ptr d 0))else none)
  |_=>none
 |.box b x=>match env.cc x with
  |none=>none
  |some a=>match kA a with
   |none=>none
   |some cs=>bif a.flat&&!a.refs (Nat.beq d)&&!ids.contains d then some (.v d (.cells b cs) (.ptr d 0))else none
 |.buildSlice b len parts=>match bm.get b with
  |some ⟨_,_,_,.slice E c _ _⟩=>bif Nat.beq parts.size len&&(Nat.ble (len*c) 65536&&Nat.ble len 65536)&&!ids.contains d then(match env.lz parts.toList with
   |none=>none
   |some e=>match m7 c 0 (sZ e)with
    |none=>none
    |some xs=>bif g7 xs.flatten then some (.v d (.slice E c xs 0 false) (.own d))else none)else none
  |_=>none
 |.makeMap b none=>match bm.get b with
  |some ⟨_,_,_,.map K E _⟩=>bif !ids.contains d then some (.v d (.map K E []) (.b6 d))else none
  |_=>none
 |_=>none
def xw(bm:eb)(env:ag)(σ:U)(sz:Nat)(row:List H):Op->Option (b8×b7)
 |.indexAddr b x y=>match bm.get b with
  |some ⟨_,_,_,.slice _ a _ _⟩=>(match env.cc y with
   |some (.int _ i)=>(match env.cc x with
    |some (.bn _ xs)=>(match spine row with
     |none=>none
     |some r=>bif Nat.beq a sz then some (.y [] (.dR r),([.bn false xs,.int .i64 i],[]))else none)
    |some (.own d)=>(match σ.get d with
     |some (.slice _ c xs _ _)=>bif Nat.beq a sz&&Nat.beq c sz then some (.y [d] (.ptr d (i.toNat*sz)),([.bn false xs,.int .i64 i],[]))else none
     |some (.win _ _ xs)=>(match spine row with
      |none=>none
      |some r=>bif Nat.beq a sz then some (.y [d] (.dR r),([.bn false xs,.int .i64 i],[]))else none)
     |_=>none)
    |_=>none)
   |_=>none)
  |_=>none
 |_=>none
def xD(bm:eb)(env:ag)(σ:U)(d sz off:Nat)(row:List H):Op->Option (b8×b7)
 |.load c x=>match bm.get c with
  |none=>none
  |some i=>match env.cc x with
   |some (.ptr b p)=>(match σ.get d with
    |some (.slice _ e xs _ _)=>bif Nat.beq b d&&Nat.beq e sz&&(i.bU||Nat.blt 0 i.sz)&&Nat.ble (off+i.sz) sz then(match iy i.bU i.sz (row.drop off)with
     |none=>none
     |some a=>some (.y [d] a,([.bn false xs,.ptr b p],[])))else none
    |_=>none)
   |_=>none
 |_=>none
def yj(bm:eb)(env:ag)(σ:U)(d sz off k:Nat)(zs:List (List H)):Op->Option (b8×b7)
 |.store g x y=>match bm.get g with
  |none=>none
  |some i=>match env.cc x with
   |some (.ptr f p)=>(match env.cc y with
    |none=>none
    |some a=>match kA (k6 a)with
     |none=>none
     |some b=>match σ.get d with
      |some (.slice h e xs c _)=>bif Nat.beq f d&&Nat.beq e sz&&Nat.beq c k&&(k6 a).flat&&g7 b&&Nat.beq b.length i.sz&&Nat.ble (off+i.sz) sz then
        some (.e [d] [] .undef (σ.set d (.slice h e zs c false)),([.bn false xs,.ptr f p,.agg b],[]))else none
      |_=>none)
   |_=>none
 |_=>none
mutual
def H.oT:H->cr
 |.own d=>[d]
 |.agg cs=>qn cs
 |.bP cs=>qn cs
 |.fn _ cs=>qn cs
 |_=>[]
def qn:List H->cr
 |[]=>[]
 |x::r=>x.oT++qn r
end
def x8(env:ag)(σ:U)(r:H):Op->Option (b8×b7)
 |.call c=>match AM env c with
  |none=>none
  |some (f,a,d)=>match σ.at (qn a)with
   |none=>none
   |some b=>match qm b 0 a with
    |none=>none
    |some ch=>bif r.closed then some (.y b.ids r,(.fn f d::ch,[]))else none
 |_=>none
def yb(env:ag)(d:Nat)(σ σs:U)(r:H):Op->Option (b8×b7)
 |.call c=>match oP env c with
  |none=>none
  |some (f,b)=>match σ.at (σs.ids++qn b)with
   |none=>none
   |some a=>match qm a d b with
    |none=>none
    |some ch=>match a.at σs.ids with
     |none=>none
     |some e=>bif r.closed&&σs.clean (λg=>!(σs.ids++[]).contains g)then some (.y a.ids r,(.fn f []::ch,e))else none
 |_=>none
def xz(env:ag)(σ:U)(b:cr)(r:H):Op->Option (b8×b7)
 |.call c=>match oP env c with
  |none=>none
  |some (f,a)=>match σ.at b with
   |none=>none
   |some σs=>match jU (oO 9 σs) a with
    |none=>none
    |some ch=>bif r.fq then some (.y σs.ids r,(.fn f []::ch,[]))else none
 |_=>none
def w8(ids:cr)(env:ag)(σ b2:U)(news:cr)(r:H)(σ2:U):Op->Option (b8×b7)
 |.call c=>match oP env c with
  |none=>none
  |some (f,b)=>match no b2.ids σ b with
   |none=>none
   |some ch=>match σ.at b2.ids with
    |none=>none
    |some d=>bif news.all (λa=>!ids.contains a&&(σ.get a).isNone)&&(σ.minus b2.ids).clean news.contains&&!r.refs (λa=>!(b2.ids++news).contains a)&&σ2.clean (λa=>!(b2.ids++news).contains a)then
      some (.e (b2.ids++news) news r (σ2++σ.minus b2.ids),(.fn f []::ch,d))else none
 |_=>none
def xb(ids:cr)(env:ag)(σ:U)(d news:cr)(r:H)(σ2:U):Op->Option (b8×b7)
 |.call c=>match oP env c with
  |none=>none
  |some (f,b)=>match σ.at d with
   |none=>none
   |some σs=>match jU (oO 9 σs) b with
    |none=>none
    |some ch=>bif news.all (λa=>!ids.contains a&&(σ.get a).isNone)&&σ.clean news.contains&&r.jf&&!r.refs (λa=>!news.contains a)&&σ2.clean (λa=>!news.contains a)then some (.e news news r (σ2++σ),(.fn f []::ch,[]))else none
 |_=>none
def w4(bm:eb)(ids:cr)(env:ag)(σ:U)(d2 sz bytes:Nat)(zs:List (List H)):Op->Option (b8×b7)
 |.call c=>match c.callee with
  |.builtin b=>(match b with
   |.append=>(match c.args.toList with
    |[s,x]=>(match c.argTypes.toList with
     |[i,j]=>(match bm.get i with
      |some ⟨_,_,_,.slice E h m _⟩=>bif Nat.beq i j&&Nat.beq h sz&&Nat.beq m bytes&&!ids.contains d2 then(match env.cc x with
       |none=>none
       |some l=>match fk [] σ l with
        |some (.bn f g)=>(match env.cc s with
         |some (.own d)=>(match σ.get d with
          |some (.slice a e xs k _)=>bif Nat.beq a E&&Nat.beq e sz&&(σ.minus [d]).clean [d2].contains then some (.e [d,d2] [d2] (.own d2) ((d2,.slice a e zs k false)::σ.minus [d]),([.bn false xs,.bn false g],[]))else none
          |some (.win a e xs)=>bif Nat.beq a E&&Nat.beq e sz&&(σ.minus [d]).clean [d2].contains then some (.e [d,d2] [d2] (.own d2) ((d2,.win a e zs)::σ.minus [d]),([.bn false xs,.bn false g],[]))else none
          |_=>none)
         |some .az=>bif σ.clean [d2].contains then some (.e [d2] [d2] (.own d2) ((d2,.slice E h zs 0 false)::σ),([.bn false [],.bn false g],[]))else none
         |some (.bn true xs)=>bif σ.clean [d2].contains&&Nat.blt 0 g.length then some (.e [d2] [d2] (.own d2) ((d2,.slice E h zs 0 false)::σ),([.bn false xs,.bn false g],[]))else none
         |_=>none)
        |_=>none)else none
      |_=>none)
     |_=>none)
    |_=>none)
   |_=>none)
  |_=>none
 |_=>none
def qo:H->cr
 |.own d=>[d]
 |_=>[]
def uN(bm:eb)(env:ag)(σ:U)(sz:Nat)(zs:List (List H)):Op->Option (b8×b7)
 |.slice d x h g none=>match bm.get d with
  |some ⟨_,_,_,.slice _ e _ _⟩=>(match env.cc x with
   |none=>none
   |some c=>match fk [] σ c with
    |some (.bn f xs)=>(match kP env 0 h with
     |none=>none
     |some a=>match kP env (xs.length:Int) g with
      |none=>none
      |some b=>bif Nat.beq e sz then some (.y (qo c) (.bn false zs),([.bn false xs,.int .i64 a,.int .i64 b],[]))else none)
    |_=>none)
  |_=>none
 |_=>none
def rV(bm:eb)(env:ag)(σ:U)(sz:Nat)(zs:List (List H)):Op->Option (b8×b7)
 |.slice d x i (some h) (some gq)=>match bm.get d with
  |some ⟨_,_,_,.slice _ g _ _⟩=>(match env.cc x with
   |none=>none
   |some c=>match fk [] σ c with
    |some (.bn f xs)=>(match kP env 0 i with
     |none=>none
     |some a=>match kP env (xs.length:Int) (some h)with
      |none=>none
      |some b=>match kP env (xs.length:Int) (some gq)with
       |none=>none
       |some e=>bif Nat.beq g sz then some (.y (qo c) (.bn true zs),([.bn false xs,.int .i64 a,.int .i64 b,.int .i64 e],[]))else none)
    |_=>none)
  |_=>none
 |_=>none
def r7(bm:eb)(ids:cr)(env:ag)(σ:U)(d2 sz:Nat)(zs:List (List H)):Op->Option (b8×b7)
 |.slice c x g none none=>match bm.get c with
  |some ⟨_,_,_,.slice _ e _ _⟩=>(match env.cc x with
   |some (.own d)=>(match σ.get d with
    |some (.win f b xs)=>(match kP env 0 g with
     |none=>none
     |some a=>bif Nat.beq e sz&&Nat.beq b sz&&!ids.contains d2&&(σ.minus [d]).clean [d2].contains then some (.e [d,d2] [d2] (.own d2) ((d2,.win f b zs)::σ.minus [d]),([.bn false xs,.int .i64 a],[]))else none)
    |_=>none)
   |_=>none)
  |_=>none
 |_=>none
def x5(env:ag):Op->Option (b8×b7)
 |.binOp op _ x y _=>match env.cc x with
  |some (.int k m)=>(match env.cc y with
   |some (.int a n)=>bif decide (k=a)then(match op with
    |.quo=>some (.y [] (.int k (k.wrap (m.tdiv n))),([.int .i64 n],[]))
    |.rem=>some (.y [] (.int k (m.tmod n)),([.int .i64 n],[]))
    |_=>none)else none
   |_=>none)
  |_=>none
 |_=>none
def yg(env:ag):Op->Option (b8×b7)
 |.binOp op _ x y _=>match env.cc x with
  |some (.int k m)=>(match env.cc y with
   |some (.int _ n)=>(match op with
    |.shl=>some (.y [] (.int k (k.wrap (m*2 ^ min n.toNat k.bits))),([.int .i64 n],[]))
    |.shr=>some (.y [] (.int k (m.fdiv (2 ^ min n.toNat k.bits))),([.int .i64 n],[]))
    |_=>none)
   |_=>none)
  |_=>none
 |_=>none
def wO(bm:eb)(env:ag)(b:UInt8):Op->Option (b8×b7)
 |.index a x y=>match bm.get a with
  |some ⟨_,_,_,.str⟩=>(match env.cc x with
   |some (.str s)=>(match env.cc y with
    |some (.int _ n)=>some (.y [] (.int .u8 (b.toNat:Int)),([.str s,.int .i64 n],[]))
    |_=>none)
   |_=>none)
  |_=>none
 |_=>none
def xB(bm:eb)(env:ag)(σ:U)(E:Nat)(k:IntKind)(a:H)(b:Bool):Op->Option (b8×b7)
 |.lookup e x y ok=>match bm.get e with
  |some ⟨_,_,_,.map K c f⟩=>(match env.cc x with
   |some (.b6 d)=>(match env.cc y with
    |some (.int bE n)=>(match σ.get d with
     |some (.map g h bD)=>bif Nat.beq c E&&decide (f=k)&&decide (bE=k)&&Nat.beq g K&&Nat.beq h c then some (.y [d] (bif ok then .bP [a,.bool b]else a),([.int .i64 n],[(0,.map 0 0 bD)]))else none
     |_=>none)
    |_=>none)
   |_=>none)
  |_=>none
 |_=>none
def xI(bm:eb)(env:ag)(σ:U)(k:IntKind)(XZ:List (H×H))(T:Nat)(x y f:Operand):Option (b8×b7):=match bm.get T with
  |some ⟨_,_,_,.map K e c⟩=>(match env.cc x with
   |some (.b6 d)=>(match env.cc y with
    |some (.int bE n)=>(match env.cc f with
     |some v=>(match σ.get d with
      |some (.map a b bD)=>bif decide (c=k)&&decide (bE=k)&&Nat.beq a K&&Nat.beq b e then some (.e [d] [] .undef (σ.set d (.map a b XZ)),([.int .i64 n,v],[(0,.map 0 0 bD)]))else none
      |_=>none)
     |_=>none)
    |_=>none)
   |_=>none)
  |_=>none
def BP(bm:eb)(env:ag)(σ:U)(k:IntKind)(XZ:List (H×H)):Op->Option (b8×b7)
 |.mapUpdate a x y z=>xI bm env σ k XZ a x y z
 |.insert a x y z=>xI bm env σ k XZ a x y z
 |_=>none
def xC(bm:eb)(env:ag)(σ:U)(k:IntKind)(n:Int):Op->Option (b8×b7)
 |.call c=>match c.callee with
  |.builtin b=>(match b with
   |.len=>(match c.args.toList with
    |[x]=>(match c.argTypes.toList with
     |[a]=>(match bm.get a with
      |some ⟨_,_,_,.map K g e⟩=>(match env.cc x with
       |some (.b6 d)=>(match σ.get d with
        |some (.map f h bD)=>bif decide (e=k)&&Nat.beq f K&&Nat.beq h g then some (.y [d] (.int .i64 n),([],[(0,.map 0 0 bD)]))else none
        |_=>none)
       |_=>none)
      |_=>none)
     |_=>none)
    |_=>none)
   |_=>none)
  |_=>none
 |_=>none
def yl(env:ag)(neg:Bool)(T:Nat)(r:Bool):Op->Option (b8×b7)
 |.binOp op c x y _=>match env.cc x with
  |none=>none
  |some a=>match env.cc y with
   |none=>none
   |some b=>bif a.plain&&b.plain&&Nat.beq c T then(match op with
    |.eql=>bif neg then none else some (.y [] (.bool r),([a,b],[]))
    |.neq=>bif neg then some (.y [] (.bool r),([a,b],[]))else none
    |_=>none)else none
 |_=>none
def yh(bm:eb)(env:ag)(neg:Bool):Op->Option (b8×b7)
 |.binOp op b x y _=>match env.cc x with
  |none=>none
  |some a=>match env.cc y with
   |some .az=>(match bm.get b with
    |some ⟨_,_,_,.slice _ _ _ _⟩=>(match op with
     |.eql=>bif neg then none else some (.y [] (.bool false),([a],[]))
     |.neq=>bif neg then some (.y [] (.bool true),([a],[]))else none
     |_=>none)
    |_=>none)
   |_=>none
 |_=>none
def x2(env:ag)(T aQ:Nat)(r:H):Op->Option (b8×b7)
 |.convert S b x=>match env.cc x with
  |none=>none
  |some a=>bif Nat.beq S T&&Nat.beq b aQ then some (.y [] r,([a],[]))else none
 |_=>none
def x0(env:ag)(op:BinOp)(T:Nat)(r:H):Op->Option (b8×b7)
 |.binOp c S x y _=>match env.cc x with
  |none=>none
  |some a=>match env.cc y with
   |none=>none
   |some b=>bif decide (c=op)&&Nat.beq S T then some (.y [] r,([a,b],[]))else none
 |_=>none
def qp{P:Program}(bm:eb)(ids:cr)(o:Oper)(env:ag)(σ:U):Hint P->Option (b8×b7)
 |.td=>match Bo bm env σ o.op with
  |some (g,j)=>some (.y g j,([],[]))
  |none=>match BZ env σ bm o.op with
   |some s=>some (s,([],[]))
   |none=>none
 |.al d=>match nM bm ids env d o.op with|some s=>some (s,([],[]))|none=>none
 |.to h _ b _=>match qp bm ids o env σ h with
  |some (.y g j,TK)=>some (.y g b,(j::TK.1,TK.2))
  |_=>none
 |.ix c _ _ row _=>xw bm env σ c row o.op
 |.lo d c _ _ off row _=>xD bm env σ d c off row o.op
 |.so d c _ _ off _ zs _ k _=>yj bm env σ d c off k zs o.op
 |.rf _ _ _ r _ _=>x8 env σ r o.op
 |.ro p _ σs _ r _ _=>yb env p σ σs r o.op
 |.le i _ _ r _ _=>xz env σ i r o.op
 |.hU news _ q _ r l _ _=>w8 ids env σ q news r l o.op
 |.dl i news _ _ r l _ _ _=>xb ids env σ i news r l o.op
 |.gs _ _ f _=>f ids o.op env σ
 |.ap d2 c bytes _ _ zs _=>w4 bm ids env σ d2 c bytes zs o.op
 |.sl c _ _ _ zs _=>uN bm env σ c zs o.op
 |.ws d2 c _ _ zs _=>r7 bm ids env σ d2 c zs o.op
 |.qr _ _=>x5 env o.op
 |.sh _ _=>yg env o.op
 |.is _ _ b _=>wO bm env b o.op
 |.lk E k _ _ a b _=>xB bm env σ E k a b o.op
 |.ko k _ _ _ XZ _=>BP bm env σ k XZ o.op
 |.lm k _ n _=>xC bm env σ k n o.op
 |.uO neg e _ _ r _=>yl env neg e r o.op
 |.ni neg _ _=>yh bm env neg o.op
 |.s3 c _ _ _ zs _=>rV bm env σ c zs o.op
 |.pu e m _ r _=>x2 env e m r o.op
 |.pb op e _ _ r _=>x0 env op e r o.op
theorem eB.mono{G:bG}{o:Oper}{ev:Operand->H}{σ:U}{M news:cr}{Φ u:H->U->Prop}(h:eB G o ev σ M news Φ)(S:∀a s,Φ a s->u a s):eB G o ev σ M news u:=by
 intro cx I β w q Q O;have:=h cx I β w q Q O;generalize (execOp q o).run G.P w=r at this;cases r with
 |halt x w'=>exact this
 |ok n w'=>
  cases n<;>simp only[hc]at this ⊢
  .grind
  .grind
  .exact Calls.mono this λ_ _ ⟨v,Y,a,s,C,ab,Z,X⟩=>⟨v,Y,a,s,C,ab,S _ _ Z,X⟩
section
variable {P:Program}{N:Nat}{ids:cr}{bm:eb}{o:Oper}{env:ag}{σ:U}
def NZ(W:fe P bm){s:b8}(h:BZ env σ bm o.op=some s):dL ⟨P,N,ids⟩ o env σ s:=by
 cases c:o.op<;>rw[c]at h<;>simp only[BZ]at h
 case store T x y=>
  split at h
  .cases h
  .rename_i i g;have l:=(e9.get W.tys g).ty;split at h
   .rename_i q t d;split at h
    .cases h
    .rename_i a f;split at h
     .rename_i m p k;split at h
      .cases h
      .rename_i n j
       replace h:=dX h;obtain⟨b,h⟩:=h
       simp only[Bool.and_eq_true]at b;split at h
       .cases h
       .rename_i r e;cases h
        exact⟨avu c (atu d) l f k b.1.1 j b.1.2 b.2 e,rfl⟩
     .cases h
   .cases h
 all_goals cases h
def N0(W:fe P bm){d:Nat}{s:b8}(h:nM bm ids env d o.op=some s):dL ⟨P,N,ids⟩ o env σ s:=by
 cases e:o.op<;>rw[e]at h
 case alloc T=>
  simp only[nM]at h;split at h
  .rename_i v q zs t f;have p:=(e9.get W.tys f).Ij _ rfl;split at h
   .cases h
   .rename_i n g;cases c:ids.contains d with
    |true=>rw[c]at h;cases h
    |false=>rw[c]at h;cases h;exact⟨c,bb.alloc e p (l4 g) c⟩
  .cases h
 case box T x=>
  simp only[nM]at h;split at h
  .cases h
  .rename_i a k;split at h
   .cases h
   .rename_i n g;obtain⟨b,⟨⟩⟩:=dX h;simp only[Bool.and_eq_true,Bool.not_eq_true']at b;exact⟨b.2,bb.box e k b.1.1 g b.1.2 b.2⟩
 case buildSlice T len parts=>
  simp only[nM]at h;split at h
  .rename_i f;have i:=(e9.get W.tys f).kd;simp only[gU]at i
   replace h:=dX h;obtain⟨b,h⟩:=h
   simp only[Bool.and_eq_true,Bool.not_eq_true']at b;split at h
   .cases h
   .rename_i u l;split at h
    .cases h
    .rename_i xs j;obtain⟨m,⟨⟩⟩:=dX h;exact⟨b.2,(auT e i.2.2 (by simpa using b.1.1) (by simpa using b.1.2) (by rw[<-zG,at0 l];exact uP _ j) m b.2).off⟩
  .cases h
 case makeMap T r=>
  cases r with
  |some r=>simp only[nM]at h;cases h
  |none=>
   simp only[nM]at h;split at h
   .rename_i f;cases c:ids.contains d with
    |true=>rw[c]at h;cases h
    |false=>rw[c]at h;cases h;exact⟨c,bC.makeMap e c⟩
   .cases h
 all_goals (simp only[nM]at h;cases h)
variable {G:bG}{i:Int}{k:IntKind}{x:Operand}
theorem aus{T E sz:Nat}{y:Operand}{f:Bool}{ev:Operand->H}(xs:List (List H))(h:o.op=.indexAddr T x y)(r:ev x=.bn f xs)(s:ev y=.int k i)(p:iU G.P T E sz)
  (u:∀e∈xs,e.length=sz) (hi:0<=i/\i<xs.length):Yields G o ev σ [] [] (.dR (el xs i)):=
 .pure λD J w K j A F C l=>by
  have c:=l x (by simp[h,Op.operands]);rw[r]at c
  have g:=l y (by simp[h,Op.operands]);rw[s]at g;have g:=fB g
  simp only[au,aS]at c;obtain⟨a,I,c,B,z,_,d⟩:=c;have m:i.toNat<xs.length:=by omega
  rcases d with d|⟨b,q,rfl,d⟩
  .grind
  .have n:=Df (sz:=sz) _ q i.toNat u d m;have t:xs.getD i.toNat []=el xs i:=by
    simp[List.getD_eq_getElem?_getD,m,el]
   rw[t]at n;refine⟨.pointer (some ⟨b,q+i.toNat*sz,none⟩),?_,by simp only[au,aS];exact⟨b,_,rfl,n⟩⟩;have v:∀j,(underlying T).run G.P j=.ok (.slice E) j:=λj=>by simp[underlying,program,Sem.run,p.en]
   simp[execOp,h,c,g,Instr.indexAt,asIntOf,v,hi,p.size,g5]
variable {TK:b7}{xs:List (List H)}
def N1(W:fe P bm){sz:Nat}{row:List H}(t:ny sz xs i row){s:b8}(h:xw bm env σ sz row o.op=some (s,TK))(n:TK=([.bn false xs,.int .i64 i],[])):dL ⟨P,N,ids⟩ o env σ s:=by
 obtain⟨p,j,l,q⟩:=t;cases c:o.op<;>rw[c]at h
 case indexAddr T x y=>
  simp only[xw]at h;split at h
  .rename_i w _ _ v;have d:=(e9.get W.tys v).kd;simp only[gU]at d;split at h
   .rename_i k A e;split at h
    .rename_i f u b;split at h
     .cases h
     .rename_i r g;obtain⟨a,⟨⟩⟩:=dX h;cases n;obtain rfl:=Nat.eq_of_beq_eq_true a;simp only[dL];rw[<-l4 g,<-q];exact aus _ c (atu b) (atu e) d.1 p ⟨j,l⟩
    .rename_i F b;split at h
     .rename_i B z E D C m;obtain⟨a,⟨⟩⟩:=dX h;rw[Bool.and_eq_true]at a;cases n;obtain rfl:=Nat.eq_of_beq_eq_true a.1;obtain rfl:=Nat.eq_of_beq_eq_true a.2;exact au3 _ id c (atu b) (atu e) (by rw[p8];exact m) d.1 ⟨j,l⟩
     .rename_i u m;split at h
      .cases h
      .rename_i r g;obtain⟨a,⟨⟩⟩:=dX h;cases n;obtain rfl:=Nat.eq_of_beq_eq_true a;simp only[dL];rw[<-l4 g,<-q];exact Yields.win m (aus _ c (DO (atu b)) (KL (atu e)) d.1 p ⟨j,l⟩)
     .cases h
    .cases h
   .cases h
  .cases h
 all_goals (simp only[xw]at h;cases h)
def N2(W:fe P bm){d sz off:Nat}{row:List H}(j:ny sz xs i row){s:b8}(h:xD bm env σ d sz off row o.op=some (s,TK))(u:TK=([.bn false xs,.ptr d (i.toNat*sz+off)],[])):dL ⟨P,N,ids⟩ o env σ s:=by
 obtain⟨y,f,l,p⟩:=j;cases c:o.op<;>rw[c]at h
 case load T x=>
  simp only[xD]at h;split at h
  .cases h
  .rename_i C q;have v:=(e9.get W.tys q).ty;split at h
   .rename_i E F e;split at h
    .rename_i B z A k D t
     replace h:=dX h;obtain⟨b,h⟩:=h
     simp only[Bool.and_eq_true]at b;obtain⟨⟨⟨w,g⟩,m⟩,n⟩:=b;split at h
     .cases h
     .rename_i a r;cases h;cases u;obtain rfl:=Nat.eq_of_beq_eq_true g;exact au9 (i:=i) _ id c (atu e) (by rw[p8];exact t) rfl ⟨f,l⟩ v m n (by rw[id_eq,p];exact r)
    .cases h
   .cases h
 all_goals (simp only[xD]at h;cases h)
variable {zs:List (List H)}
def N3(W:fe P bm){d sz off k:Nat}{ca:List H}(m:vE sz xs i off ca zs)(w:(k:Int)<=i){s:b8}(h:yj bm env σ d sz off k zs o.op=some (s,TK))(C:TK=([.bn false xs,.ptr d (i.toNat*sz+off),.agg ca],[])):dL ⟨P,N,ids⟩ o env σ s:=by
 obtain⟨⟨I,j,n,_⟩,r⟩:=m;cases c:o.op<;>rw[c]at h
 case store T x y=>
  simp only[yj]at h;split at h
  .cases h
  .rename_i O t;have E:=(e9.get W.tys t).ty;split at h
   .rename_i S U f;split at h
    .cases h
    .rename_i a g;split at h
     .cases h
     .rename_i Q v;split at h
      .rename_i M K L J R B;obtain⟨b,⟨⟩⟩:=dX h;simp only[Bool.and_eq_true]at b;obtain⟨⟨⟨⟨⟨⟨F,l⟩,p⟩,q⟩,u⟩,z⟩,A⟩:=b;cases C;obtain rfl:=Nat.eq_of_beq_eq_true l;obtain rfl:=Nat.eq_of_beq_eq_true p;have e:=D.NT (G:=⟨P,N,ids⟩) (i:=i) (ev:=λx=>k6 (env.ev x)) xs id (e3 (el xs i) off ca) c (show k6 (env.ev x)=_ by rw[atu f];rfl) (show k6 (env.ev y)=_ by rw[atu g]) (by rw[p8];exact B) rfl ⟨j,n⟩ w E q v u z A rfl;rw[p8,<-r]at e;exact⟨e.off,rfl⟩
      .cases h
   .cases h
 all_goals (simp only[yj]at h;cases h)
variable {ch:List H}{f:FuncId}{r:H}
def N4{n:Nat}{σs:U}(i:bB P f σs ch r)(j:be P f){s:b8}(h:yb env n σ σs r o.op=some (s,TK))(t:TK=(.fn f []::ch,σs)):dL ⟨P,N,ids⟩ o env σ s:=by
 cases b:o.op<;>rw[b]at h
 case call c=>
  simp only[yb]at h;split at h
  .cases h
  .rename_i w u q;obtain⟨v,args,k,aM,z,rfl,d,g,rfl⟩:=va q;split at h
   .cases h
   .rename_i m l;split at h
    .cases h
    .rename_i x e;split at h
     .cases h
     .rename_i y p;obtain⟨a,⟨⟩⟩:=dX h;rw[Bool.and_eq_true]at a;cases t;exact bb.call (G:=⟨P,N,ids⟩) (σs:=m) (b2:=σs) b d j.h i g (zI e) (atP l).1 (atP p).1 a.1 a.2
 all_goals (simp only[yb]at h;cases h)
def N5{b:List H}(j:bB P f [] (ch++b) r)(l:be P f){s:b8}(h:x8 env σ r o.op=some (s,TK))(q:TK=(.fn f b::ch,[])):dL ⟨P,N,ids⟩ o env σ s:=by
 cases a:o.op<;>rw[a]at h
 case call c=>
  simp only[x8]at h;split at h
  .cases h
  .rename_i v t w p;obtain⟨u,args,k,rfl,d,i⟩:=K5 p;split at h
   .cases h
   .rename_i n m;split at h
    .cases h
    .rename_i x g;obtain⟨e,⟨⟩⟩:=dX h;cases q;exact ava (G:=⟨P,N,ids⟩) (σs:=n) a d l.h (atP m).1.mem (by rw[atZ i];exact zI g) j e
 all_goals (simp only[x8]at h;cases h)
def N6{p:cr}(i:bB P f [] ch r)(j:be P f){s:b8}(h:xz env σ p r o.op=some (s,TK))(q:TK=(.fn f []::ch,[])):dL ⟨P,N,ids⟩ o env σ s:=by
 cases a:o.op<;>rw[a]at h
 case call c=>
  simp only[xz]at h;split at h
  .cases h
  .rename_i v t n;obtain⟨u,args,k,aM,x,rfl,b,g,rfl⟩:=va n;split at h
   .cases h
   .rename_i m l;split at h
    .cases h
    .rename_i w e;obtain⟨d,⟨⟩⟩:=dX h;cases q;exact avk (G:=⟨P,N,ids⟩) (σs:=m) 9 a b j.h i g e (atP l).1 d
 all_goals (simp only[xz]at h;cases h)
theorem N7{news:cr}{b2 σ2:U}(n:cp P f b2 ch (λa j=>a=r/\j=σ2))(u:be P f){s:b8}(h:w8 ids env σ b2 news r σ2 o.op=some (s,TK))(z:TK=(.fn f []::ch,b2)):dL ⟨P,N,ids⟩ o env σ s:=by
 cases e:o.op<;>rw[e]at h
 case call c=>
  simp only[w8]at h;split at h
  .cases h
  .rename_i D A w;obtain⟨B,args,k,aM,I,rfl,g,l,rfl⟩:=va w;split at h
   .cases h
   .rename_i F i;split at h
    .cases h
    .rename_i E v;obtain⟨d,⟨⟩⟩:=dX h;simp only[Bool.and_eq_true,Bool.not_eq_true']at d;obtain⟨⟨⟨b,m⟩,q⟩,t⟩:=d;cases z;refine⟨?_,by rw[List.all_eq_true]at b ⊢;exact λx y=>((Bool.and_eq_true _ _).mp (b x y)).1⟩;have C:=avt (G:=⟨P,N,ids⟩) (σ:=σ) news e g u.h n l (r1 i) (atP v).1 b m (λJ H p=>by obtain⟨rfl,rfl⟩:=p;exact⟨q,t⟩)
     grind
 all_goals (simp only[w8]at h;cases h)
def N8{z news:cr}{σ2:U}(n:cp P f [] ch (λa j=>a=r/\j=σ2))(t:be P f)(x:mh σ2){s:b8}(h:xb ids env σ z news r σ2 o.op=some (s,TK))(C:TK=(.fn f []::ch,[])):dL ⟨P,N,ids⟩ o env σ s:=by
 cases e:o.op<;>rw[e]at h
 case call c=>
  simp only[xb]at h;split at h
  .cases h
  .rename_i F D y;obtain⟨E,args,k,aM,I,rfl,g,l,rfl⟩:=va y;split at h
   .cases h
   .rename_i v u;split at h
    .cases h
    .rename_i H i;obtain⟨d,⟨⟩⟩:=dX h;simp only[Bool.and_eq_true,Bool.not_eq_true']at d;obtain⟨⟨⟨⟨b,m⟩,p⟩,q⟩,w⟩:=d;cases C;exact⟨auM (G:=⟨P,N,ids⟩) (σs:=v) 9 news e g t.h n l i (atP u).1 b m p q w x,by rw[List.all_eq_true]at b ⊢;exact λA B=>((Bool.and_eq_true _ _).mp (b A B)).1⟩
 all_goals (simp only[xb]at h;cases h)
theorem N9(W:fe P bm){d2 sz bytes:Nat}{ys:List (List H)}(J:vz sz bytes xs ys zs){s:b8}(h:w4 bm ids env σ d2 sz bytes zs o.op=some (s,TK))(q:TK=([.bn false xs,.bn false ys],[])):dL ⟨P,N,ids⟩ o env σ s:=by
 obtain⟨n,y,i,j,l,m⟩:=J;cases e:o.op<;>rw[e]at h
 case call c=>
  obtain⟨ah,args,V⟩:=c;simp only[w4]at h;split at h
  .split at h
   .split at h
    .rename_i L B R;have:args=#[L,B]:=Array.toList_inj.1 (by simpa using R);subst this;split at h
     .rename_i w z T;have:V=#[w,z]:=Array.toList_inj.1 (by simpa using T);subst this;split at h
      .rename_i X Y ab ae O;have g:=(e9.get W.tys O).kd;simp only[gU]at g;generalize x:(Nat.beq w z&&_&&_&&_)=M at h;cases M with
       |false=>cases h
       |true=>
        simp only[cond_true]at h;simp only[Bool.and_eq_true,Bool.not_eq_true']at x;obtain⟨⟨⟨I,F⟩,K⟩,b⟩:=x;obtain rfl:=Nat.eq_of_beq_eq_true I;obtain rfl:=Nat.eq_of_beq_eq_true F;obtain rfl:=Nat.eq_of_beq_eq_true K;split at h
        .grind
        .rename_i Z C;split at h
         .rename_i f U E;have p:eX σ (env.ev B) (.bn f U):=by rw[atu C];exact kk E
          split at h
          .rename_i ai d;split at h
           .rename_i Q S A k af v;obtain⟨a,⟨⟩⟩:=dX h;simp only[Bool.and_eq_true]at a;obtain⟨⟨t,u⟩,r⟩:=a;obtain rfl:=Nat.eq_of_beq_eq_true t;obtain rfl:=Nat.eq_of_beq_eq_true u;cases q;refine⟨?_,by simpa using b⟩;rw[<-n];exact D.append (G:=⟨P,N,ids⟩) e (atu d) v p g.2.1 rfl i j l m b r
           .rename_i Q S A v;obtain⟨a,⟨⟩⟩:=dX h;simp only[Bool.and_eq_true]at a;obtain⟨⟨t,u⟩,r⟩:=a;obtain rfl:=Nat.eq_of_beq_eq_true t;obtain rfl:=Nat.eq_of_beq_eq_true u;cases q;refine⟨?_,by simpa using b⟩;rw[<-n];exact D.Mr (G:=⟨P,N,ids⟩) e (atu d) v p g.2.1 rfl i j l m b r
           .grind
          .rename_i d;obtain⟨a,⟨⟩⟩:=dX h;cases q;refine⟨?_,by simpa using b⟩;rw[<-n];exact auK (G:=⟨P,N,ids⟩) e (.inl ⟨atu d,rfl⟩) p g.2.1 y i j l m b a
          .rename_i A d;obtain⟨a,⟨⟩⟩:=dX h;rw[Bool.and_eq_true]at a;cases q;refine⟨?_,by simpa using b⟩;rw[<-n];exact auK (G:=⟨P,N,ids⟩) e (.inr ⟨atu d,(Iff.of_eq Nat.blt_eq).1 a.2⟩) p g.2.1 y i j l m b a.1
          .cases h
         .cases h
      .cases h
     .cases h
    .cases h
   .cases h
  .cases h
 all_goals (simp only[w4]at h;cases h)
theorem Oa(W:fe P bm){d2 sz:Nat}{a:Int}(n:j4 sz xs a xs.length zs){s:b8}(h:r7 bm ids env σ d2 sz zs o.op=some (s,TK))(u:TK=([.bn false xs,.int .i64 a],[])):dL ⟨P,N,ids⟩ o env σ s:=by
 obtain⟨v,d,z⟩:=n;cases c:o.op<;>rw[c]at h
 case slice T x lo hi gq=>
  cases hi with
  |some m=>cases gq<;>simp only[r7]at h<;>cases h
  |none=>
  cases gq with
  |some m=>simp only[r7]at h;cases h
  |none=>
   simp only[r7]at h;split at h
   .rename_i A _ _ q;have f:=(e9.get W.tys q).kd;simp only[gU]at f;split at h
    .rename_i F j;split at h
     .rename_i C E B t;split at h
      .cases h
      .rename_i w r;obtain⟨b,⟨⟩⟩:=dX h;simp only[Bool.and_eq_true,Bool.not_eq_true']at b;obtain⟨⟨⟨l,k⟩,e⟩,p⟩:=b;obtain rfl:=Nat.eq_of_beq_eq_true l;obtain rfl:=Nat.eq_of_beq_eq_true k;cases u;obtain⟨g,i⟩:=As r;refine⟨?_,by simpa using e⟩;have y:=D.NU (G:=⟨P,N,ids⟩) (d2:=d2) c (atu j) t f.1 g (by rw[i];exact⟨d.1,d.2.1⟩) e p
       simp_all
     .cases h
    .cases h
   .cases h
 all_goals (simp only[r7]at h;cases h)
variable {b:Int}
def Nx(W:fe P bm){sz:Nat}{a:Int}(z:j4 sz xs a b zs){s:b8}(h:uN bm env σ sz zs o.op=some (s,TK))(E:TK=([.bn false xs,.int .i64 a,.int .i64 b],[])):dL ⟨P,N,ids⟩ o env σ s:=by
 obtain⟨y,v,A⟩:=z;cases k:o.op<;>rw[k]at h
 case slice T x lo hi gq=>
  cases gq with
  |some m=>simp only[uN]at h;cases h
  |none=>
   simp only[uN]at h;split at h
   .rename_i I _ _ C;have p:=(e9.get W.tys C).kd;simp only[gU]at p;split at h
    .cases h
    .rename_i e j;split at h
     .rename_i f J c;split at h
      .cases h
      .rename_i H D;split at h
       .cases h
       .rename_i F B;obtain⟨t,⟨⟩⟩:=dX h;cases E;obtain rfl:=Nat.eq_of_beq_eq_true t;obtain⟨q,i⟩:=As D;obtain⟨r,g⟩:=Au B
        have n:=bC.slice (G:=⟨P,N,ids⟩) (σ:=σ) k (by rw[atu j];exact kk c) p.1 y q r (by rw[i,g];exact v) (qo e) (λu w=>by
         rw[atu j];have:fk [] u e=some (.bn f xs):=by
          cases e
          case own d=>simp only[fk]at c ⊢;rw[w _ (by simp[qo])];exact c
          case bn b l=>cases b<;>exact c
          case b6 d=>simp only[fk]at c;split at c<;>first|cases c|(split at c<;>cases c)
          case agg l=>simp only[fk]at c;split at c<;>cases c
          case bP l=>simp only[fk]at c;split at c<;>cases c
          case fn f l=>simp only[fk]at c;split at c<;>cases c
          all_goals exact c
         exact kk this)
        rw[i,g,A]at n;exact n
     .cases h
   .cases h
 all_goals (simp only[uN]at h;cases h)
def Ny{n:Int}(e:n≠0){s:b8}(h:x5 env o.op=some (s,TK))(f:TK=([.int .i64 n],[])):dL ⟨P,N,ids⟩ o env σ s:=by
 cases a:o.op<;>rw[a]at h
 case binOp op T x y i=>
  simp only[x5]at h;split at h
  .rename_i k j c;split at h
   .rename_i g l d;cases b:decide (k=g)with
    |false=>rw[b]at h;cases h
    |true=>
     rw[b]at h;simp only[cond_true]at h;have:=of_decide_eq_true b;subst this;split at h
     .cases h;cases f;exact avq a (atu c) (atu d) e
     .cases h;cases f;exact bC.rem a (atu c) (atu d) e
     .cases h
   .cases h
  .cases h
 all_goals (simp only[x5]at h;cases h)
def Nz{n:Int}(d:0<=n){s:b8}(h:yg env o.op=some (s,TK))(e:TK=([.int .i64 n],[])):dL ⟨P,N,ids⟩ o env σ s:=by
 cases a:o.op<;>rw[a]at h
 case binOp op T x y g=>
  simp only[yg]at h;split at h
  .rename_i k i b;split at h
   .rename_i f j c;split at h
    .cases h;cases e;exact bC.shift (op:=.shl) (.inl rfl) a (atu b) (atu c) d
    .cases h;cases e;exact bC.shift (op:=.shr) (.inr rfl) a (atu b) (atu c) d
    .cases h
   .cases h
  .cases h
 all_goals (simp only[yg]at h;cases h)
def Mf(W:fe P bm){d:ByteArray}{n:Int}{b:UInt8}(c:0<=n/\d[n.toNat]?=some b){s:b8}(h:wO bm env b o.op=some (s,TK))(j:TK=([.str d,.int .i64 n],[])):dL ⟨P,N,ids⟩ o env σ s:=by
 cases a:o.op<;>rw[a]at h
 case index T x y=>
  simp only[wO]at h;split at h
  .rename_i i;have e:=(e9.get W.tys i).kd;simp only[gU]at e;split at h
   .rename_i l f;split at h
    .rename_i k m g;cases h;cases j;exact au2 a (atu f) (atu g) e c.1 c.2
    .cases h
   .cases h
  .cases h
 all_goals (simp only[wO]at h;cases h)
variable {a:H}{bD:List (H×H)}
def NA(W:fe P bm){E:Nat}{n:Int}{b:Bool}(l:vB P E k bD n a b){s:b8}(h:xB bm env σ E k a b o.op=some (s,TK))(v:TK=([.int .i64 n],[(0,.map 0 0 bD)])):dL ⟨P,N,ids⟩ o env σ s:=by
 obtain⟨J,z,t,A,rfl,rfl,rfl,w⟩:=l;cases d:o.op<;>rw[d]at h
 case lookup T x y ok=>
  simp only[xB]at h;split at h
  .rename_i B F C q;have e:=(e9.get W.tys q).kd;simp only[gU]at e;split at h
   .rename_i H f;split at h
    .rename_i bE I g;split at h
     .rename_i D G XZ u;obtain⟨c,⟨⟩⟩:=dX h;simp only[Bool.and_eq_true]at c;obtain⟨⟨⟨⟨j,i⟩,m⟩,p⟩,r⟩:=c;obtain rfl:=Nat.eq_of_beq_eq_true j;have:=of_decide_eq_true i;subst this;have:=of_decide_eq_true m;subst this;obtain rfl:=Nat.eq_of_beq_eq_true p;obtain rfl:=Nat.eq_of_beq_eq_true r;cases v;exact bC.lookup z t A d (atu f) (atu g) u e w
     .cases h
    .cases h
   .cases h
  .cases h
 all_goals (simp only[xB]at h;cases h)
variable {XZ:List (H×H)}
def FR(W:fe P bm){n:Int}{v:H}(i:sB k bD n v XZ){T:Nat}{y a:Operand}(f:o.op=.mapUpdate T x y a\/o.op=.insert T x y a){s:b8}(h:xI bm env σ k XZ T x y a=some (s,TK))(u:TK=([.int .i64 n,v],[(0,.map 0 0 bD)])):dL ⟨P,N,ids⟩ o env σ s:=by
 obtain⟨L,z,r,A,rfl,rfl,m,rfl⟩:=i;simp only[xI]at h;split at h
 .rename_i B G E p;have c:=(e9.get W.tys p).kd;simp only[gU]at c;split at h
  .rename_i J d;split at h
   .rename_i bE K e;split at h
    .rename_i C w;split at h
     .rename_i F I XZ t;obtain⟨b,⟨⟩⟩:=dX h;simp only[Bool.and_eq_true]at b;obtain⟨⟨⟨g,j⟩,l⟩,q⟩:=b;have:=of_decide_eq_true g;subst this;have:=of_decide_eq_true j;subst this;obtain rfl:=Nat.eq_of_beq_eq_true l;obtain rfl:=Nat.eq_of_beq_eq_true q;cases u;exact⟨D.mapUpdate z r A f (atu d) (atu e) (atu w) m t c,rfl⟩
     .cases h
    .cases h
   .cases h
  .cases h
 .cases h
def NB(W:fe P bm){n:Int}{v:H}(b:sB k bD n v XZ){s:b8}(h:BP bm env σ k XZ o.op=some (s,TK))(c:TK=([.int .i64 n,v],[(0,.map 0 0 bD)])):dL ⟨P,N,ids⟩ o env σ s:=by
 cases a:o.op<;>rw[a]at h
 case mapUpdate T x y z=>exact FR W b (.inl a) h c
 case insert T x y z=>exact FR W b (.inr a) h c
 all_goals (simp only[BP]at h;cases h)
theorem NC(W:fe P bm){n:Int}(i:vC k bD n){s:b8}(h:xC bm env σ k n o.op=some (s,TK))(u:TK=([],[(0,.map 0 0 bD)])):dL ⟨P,N,ids⟩ o env σ s:=by
 obtain⟨F,v,r,rfl,rfl⟩:=i;cases b:o.op<;>rw[b]at h
 case call c=>
  obtain⟨D,args,w⟩:=c;simp only[xC]at h;split at h
  .split at h
   .split at h
    .rename_i x m;have:args=#[x]:=Array.toList_inj.1 (by simpa using m);subst this;split at h
     .rename_i e q;have:w=#[e]:=Array.toList_inj.1 (by simpa using q);subst this;split at h
      .rename_i y B z l;have d:=(e9.get W.tys l).kd;simp only[gU]at d;split at h
       .rename_i E f;split at h
        .rename_i A C XZ t;obtain⟨a,⟨⟩⟩:=dX h;simp only[Bool.and_eq_true]at a;obtain⟨⟨g,j⟩,p⟩:=a;have:=of_decide_eq_true g;subst this;obtain rfl:=Nat.eq_of_beq_eq_true j;obtain rfl:=Nat.eq_of_beq_eq_true p;cases u;exact avf v r b rfl (atu f) t d.en
        .grind
       .cases h
      .cases h
     .cases h
    .cases h
   .cases h
  .cases h
 all_goals (simp only[xC]at h;cases h)
variable {neg:Bool}
def ND{T:Nat}{b:H}{r:Bool}(g:∀(x y:Operand) w,(do eqGuard (bif neg then .neq else .eql) T x y (valOf a) (valOf b);binOp (bif neg then .neq else .eql) T (valOf a) (valOf b):Sem Value).run P w=.ok (.bool r) w)
  {s:b8}  (h:yl env neg T r o.op=some (s,TK)) (i:TK=([a,b],[])):dL ⟨P,N,ids⟩ o env σ s:=by
 cases d:o.op<;>rw[d]at h
 case binOp op m x y l=>
  simp only[yl]at h;split at h
  .cases h
  .rename_i k e;split at h
   .cases h
   .rename_i j f
    replace h:=dX h
    obtain⟨c,h⟩:=h;simp only[Bool.and_eq_true]at c;obtain rfl:=Nat.eq_of_beq_eq_true c.2;split at h
    .cases neg with
     |true=>cases h
     |false=>
      cases h;cases i;exact avj d (atu e) (atu f) c.1.1 c.1.2 (g x y)
    .cases neg with
     |false=>cases h
     |true=>
      cases h;cases i;exact avl d (atu e) (atu f) c.1.1 c.1.2 (g x y)
    .cases h
 all_goals (simp only[yl]at h;cases h)
def NF{T aQ:Nat}(f:∀(o:Oper) (N:Nat) (ids:cr) (ev:Operand->H) (σ:U) (x:Operand),o.op=.convert T aQ x->ev x=a->Yields ⟨P,N,ids⟩ o ev σ [] [] r){s:b8}(h:x2 env T aQ r o.op=some (s,TK))(i:TK=([a],[])):dL ⟨P,N,ids⟩ o env σ s:=by
 cases c:o.op<;>rw[c]at h
 case convert S k x=>
  simp only[x2]at h;split at h
  .cases h
  .rename_i j d;obtain⟨b,⟨⟩⟩:=dX h;simp only[Bool.and_eq_true]at b;have g:=Nat.eq_of_beq_eq_true b.1;have e:=Nat.eq_of_beq_eq_true b.2;subst g;subst e
   cases i;exact f o N ids env.ev σ x c (atu d)
 all_goals (simp only[x2]at h;cases h)
def NG{op:BinOp}{T:Nat}{b:H}(i:∀(o:Oper) (N:Nat) (ids:cr) (ev:Operand->H) (σ:U) (x y:Operand) (aQ:Nat),o.op=.binOp op T x y aQ->ev x=a->ev y=b->Yields ⟨P,N,ids⟩ o ev σ [] [] r){s:b8}(h:x0 env op T r o.op=some (s,TK))(k:TK=([a,b],[])):dL ⟨P,N,ids⟩ o env σ s:=by
 cases d:o.op<;>rw[d]at h
 case binOp n S x y aQ=>
  simp only[x0]at h;split at h
  .cases h
  .rename_i m e;split at h
   .cases h
   .rename_i l g;obtain⟨c,⟨⟩⟩:=dX h;simp only[Bool.and_eq_true]at c;have j:=of_decide_eq_true c.1;have f:=Nat.eq_of_beq_eq_true c.2;subst j;subst f
    cases k;exact i o N ids env.ev σ x y aQ d (atu e) (atu g)
 all_goals (simp only[x0]at h;cases h)
theorem aul{ev:Operand->H}{T E sz:Nat}{hi gq:Operand}{f:Bool}{i:Option Operand}{c:Int}(h:o.op=.slice T x i (some hi) (some gq))(am:eX σ (ev x) (.bn f xs))(v:iU G.P T E sz)(L:∀e∈xs,e.length=sz)(W:oy ev i)
  (X:oy ev (some hi)) (ab:oy ev (some gq)) (A:kO ev xs.length (some hi)=c) (em:kO ev xs.length (some gq)=c)
  (eK:0<=hg ev i/\hg ev i<=c/\c<=xs.length) (R:cr) (M:∀m:U,(∀d∈R,m.get d=σ.get d)->eX m (ev x) (.bn f xs)) :
  Yields G o ev σ [] R (.bn true ((xs.take c.toNat).drop (hg ev i).toNat)):=
 .pure λm ar ak aw w j Z K l=>by
  have q:=(M m Z).rep K _ (l x (by simp[h,Op.operands]));simp only[au,aS]at q;obtain⟨a,C,q,an,ao,_,r⟩:=q;generalize p:hg ev i=g at eK ⊢;have af:(Instr.sliceBounds true xs.length C (i.map j) (some (j hi)) (some (j gq))).run G.P w=.ok (g.toNat,c.toNat,c.toNat) w:=by
   have ai:0<=c/\c<=(C:Int):=by omega
   have V:0<=g/\g<=(c.toNat:Int):=by omega
   obtain⟨Y,av,S,z⟩:=oN X (l hi (by simp[h,Op.operands]));obtain⟨ae,B,Q,u⟩:=oN ab (l gq (by simp[h,Op.operands]));simp only[kO,S]at A;simp only[kO,Q]at em;subst A em;have F:=run_sliceBound (P:=G.P) (k:=ae) (code:=.slice3Acap) (w:=w) ai;have t:=run_sliceBound (P:=G.P) (k:=Y) (n:=B) (y:=B.toNat) (code:=.slice3B) (w:=w) (by omega);cases i with
   |none=>
    simp only[hg]at p;subst p;simp[Instr.sliceBounds,z,u,F,t]
   |some y=>
    obtain⟨k,n,I,J⟩:=oN W (l y (by simp[h,Op.operands]));simp only[hg,I]at p;subst p;have:=run_sliceBound (P:=G.P) (k:=k) (code:=.slice3C) (w:=w) V;simp[Instr.sliceBounds,z,u,F,t,J,this]
  have O:(execOp j o).run G.P w=.ok (.value (.slice (if c.toNat=g.toNat then a else a.map (·.add (g.toNat*sz))) (c.toNat-g.toNat) (c.toNat-g.toNat))) w:=by
   have ah:∀w,(underlying T).run G.P w=.ok (.slice E) w:=λw=>run_underlying v.en w;simp only[execOp,h,Instr.sliceAt,Instr.slice,q,Sem.run_bind,ah,Result.andThen_ok,Option.map_some,af,v.size,Sem.run_pure]
  refine⟨_,O,?_⟩;simp only[au,aS];have s:((xs.take c.toNat).drop g.toNat).length=c.toNat-g.toNat:=by rw[List.length_drop,List.length_take];omega
  refine⟨_,c.toNat-g.toNat,by rw[s],by rw[s];omega,by omega,λ_=>s.symm,?_⟩;by_cases D:(xs.take c.toNat).drop g.toNat=[]
  .exact .inl D
  .right;have aq:g.toNat<c.toNat:=by grind
   rcases r with rfl|⟨b,aj,rfl,r⟩
   .simp at D
   .refine⟨b,aj+g.toNat*sz,?_,yw _ _ _ (λe N=>L e (List.mem_of_mem_take N)) (Cg _ _ _ r)⟩;rw[if_neg (by omega)];simp[g5]
theorem NH(W:fe P bm){sz:Nat}{a:Int}(B:j4 sz xs a b zs){s:b8}(h:rV bm env σ sz zs o.op=some (s,TK))(n:TK=([.bn false xs,.int .i64 a,.int .i64 b,.int .i64 b],[])):dL ⟨P,N,ids⟩ o env σ s:=by
 obtain⟨A,w,E⟩:=B;cases k:o.op<;>rw[k]at h
 case slice T x lo g gq=>
  cases gq with
  |none=>cases g<;>(simp only[rV]at h;cases h)
  |some gq=>cases g with
   |none=>simp only[rV]at h;cases h
   |some g=>
    simp only[rV]at h;split at h
    .rename_i R _ _ J;have p:=(e9.get W.tys J).kd;simp only[gU]at p;split at h
     .cases h
     .rename_i e j;split at h
      .rename_i f I c;split at h
       .cases h
       .rename_i Q L;split at h
        .grind
        .rename_i M F;split at h
         .grind
         .rename_i O D;obtain⟨u,⟨⟩⟩:=dX h;simp only[Prod.mk.injEq,List.cons.injEq,H.bn.injEq,H.int.injEq,and_true,true_and]at n;obtain⟨rfl,rfl,rfl,K⟩:=n;obtain rfl:=Nat.eq_of_beq_eq_true u;obtain⟨r,i⟩:=As L;obtain⟨t,q⟩:=Au F;obtain⟨C,y⟩:=Au D
          have m:=aul (G:=⟨P,N,ids⟩) (σ:=σ) k (by rw[atu j];exact kk c) p.1 A r t C q (y.trans K) (by rw[i];exact w) (qo e) (λv z=>by
           rw[atu j];have:fk [] v e=some (.bn f I):=by
            cases e
            case own d=>simp only[fk]at c ⊢;rw[z _ (by simp[qo])];exact c
            case bn b l=>cases b<;>exact c
            case b6 d=>simp only[fk]at c;split at c<;>first|cases c|(split at c<;>cases c)
            case agg l=>simp only[fk]at c;split at c<;>cases c
            case bP l=>simp only[fk]at c;split at c<;>cases c
            case fn f l=>simp only[fk]at c;split at c<;>cases c
            all_goals exact c
           exact kk this)
          rw[i,E]at m;exact m
      .cases h
    .cases h
 all_goals (simp only[rV]at h;cases h)
def H9{P:Program}(op:BinOp)(t:TypeId)(x y:Operand)(a b:Option Addr)(n n' c d:Nat)(w:World):(eqGuard op t x y (.slice a n c) (.slice b n' d)).run P w=.ok () w:=by
 unfold eqGuard;cases op<;>rfl
def Iz{P:Program}(w:World)(t e:TypeId)(a:Option Addr)(n c n' b:Nat)(h:P.underlying t=some (.slice e)):(binOp .neq t (.slice a n c) (.slice none n' b)).run P w=.ok (.bool (!a.isNone)) w:=by
 simp only[binOp];simp[Op.equal,Op.maxDepth,Lib.run_equalIn_slice_nil w 9999 t e a n c n' b h]
theorem NI(W:fe P bm)(C:wM a){s:b8}(h:yh bm env neg o.op=some (s,TK))(p:TK=([a],[])):dL ⟨P,N,ids⟩ o env σ s:=by
 cases j:o.op<;>rw[j]at h
 case binOp op T x y J=>
  simp only[yh]at h;split at h
  .cases h
  .rename_i l k;split at h
   .rename_i B;split at h
    .rename_i m n E q I F G D;have w:P.underlying T=some (.slice q):=(e9.get W.tys D).kd.1.en;have z:∀(l:H),env.cc x=some l->l=a->∀(c:aZ) (d:Nat->Value) (b:Operand->Value),(∀A∈o.op.operands,au c d (env.ev A) (b A))->∃i g f,b x=.slice (some i) g f/\b y=.slice none 0 0:=by
      intro l k u c d b e;have v:=e x (by simp[j,Op.operands]);rw[atu k,u]at v;have t:=e y (by simp[j,Op.operands]);rw[atu B]at t;simp only[au,aS]at t;obtain⟨i,g,f,u⟩:=C c d _ v
      grind
     split at h
     .cases neg with
      |true=>cases h
      |false=>
       cases h;simp only[Prod.mk.injEq,List.cons.injEq,and_true]at p;refine .pure λ_ _ c d r b _ _ e=>?_;obtain⟨i,g,f,m,n⟩:=z _ k p c d b e;refine⟨.bool false,?_,by simp[au,aS]⟩;simp only[execOp,j,m,n,Sem.run_bind,H9,Result.andThen_ok,Lib.run_eql_slice_nil r T q (some i) g f 0 0 w];rfl
     .cases neg with
      |false=>cases h
      |true=>
       cases h;simp only[Prod.mk.injEq,List.cons.injEq,and_true]at p;refine .pure λ_ _ c d r b _ _ e=>?_;obtain⟨i,g,f,m,n⟩:=z _ k p c d b e;refine⟨.bool true,?_,by simp[au,aS]⟩;simp only[execOp,j,m,n,Sem.run_bind,H9,Result.andThen_ok,Iz r T q (some i) g f 0 0 w];rfl
     .cases h
    .cases h
   .cases h
 all_goals (simp only[yh]at h;cases h)
theorem vN(W:fe P bm):∀{hint:Hint P} {s:b8} {TK:b7},qp bm ids o env σ hint=some (s,TK)->TK=hint.exp->dL ⟨P,N,ids⟩ o env σ s
 |.td,s,TK,h,he=>by
  simp only[qp]at h;split at h
  .rename_i p z t;cases h;exact NY W t
  .split at h
   .rename_i w l;cases h;exact NZ W l
   .cases h
 |.al d,s,TK,h,he=>by
  simp only[qp]at h;split at h
  .rename_i w l;cases h;exact N0 W l
  .cases h
 |.to B a b e,s,TK,h,he=>by
  simp only[qp]at h;split at h
  .rename_i p z G l;cases h
   simp only[Hint.exp,Prod.mk.injEq,List.cons.injEq]at he;obtain⟨⟨K,q⟩,u⟩:=he;have:=vN W l (Prod.ext q u)
   grind
  .cases h
 |.ix j xs i row c,s,TK,h,he=>N1 W c h he
 |.lo d j xs i off row c,s,TK,h,he=>N2 W c h he
 |.so d j xs i off J zs c k hk,s,TK,h,he=>N3 W c hk h he
 |.rf f F ch r c g,s,TK,h,he=>N5 c g h he
 |.ro H f σs ch r c g,s,TK,h,he=>N4 c g h he
 |.le y f ch r c g,s,TK,h,he=>N6 c g h he
 |.hU news f I ch r A c g,s,TK,h,he=>N7 c g h he
 |.dl y news f ch r A c g x,s,TK,h,he=>N8 c g x h he
 |.gs L ex f c,s,TK,h,he=>c o N ids env σ s TK h he
 |.ap d2 j bytes xs M zs c,s,TK,h,he=>N9 W c h he
 |.sl j xs a b zs c,s,TK,h,he=>Nx W c h he
 |.ws d2 j xs a zs c,s,TK,h,he=>Oa W c h he
 |.qr n c,s,TK,h,he=>Ny c h he
 |.sh n c,s,TK,h,he=>Nz c h he
 |.is C n b c,s,TK,h,he=>Mf W c h he
 |.lk E k bD n a b c,s,TK,h,he=>NA W c h he
 |.ko k bD n v XZ c,s,TK,h,he=>NB W c h he
 |.lm k bD n c,s,TK,h,he=>NC W c h he
 |.uO neg m a b r c,s,TK,h,he=>ND c h he
 |.ni neg a c,s,TK,h,he=>NI W c h he
 |.s3 j xs a b zs c,s,TK,h,he=>NH W c h he
 |.pu m D a r c,s,TK,h,he=>NF c h he
 |.pb op m a b r c,s,TK,h,he=>NG c h he
end
end
section
inductive jg where
 |bN (b9:cr)
 |ad (t d T sz:Nat)
 |ac (d0 d T sz i:Nat)
 |b5 (a b:Nat)
 |sc (d0:Nat) (kp:cr)
 |rn (a b:Nat)
 |wi (d:Nat)
def n3(ids:cr)(env:ag)(σ:U):jg->Option (ag×U)
 |.bN h=>some (env,σ.freeze h)
 |.ad t c d e=>match env.find t with
  |some .az=>bif (σ.get c).isNone&&!ids.contains c&&env.clean (Nat.beq c)&&σ.clean (Nat.beq c)then some ((t,.own c)::env,(c,.slice d e [] 0 false)::σ)else none
  |_=>none
 |.ac d0 c d e i=>match σ.get d0 with
  |some (.cells g f)=>(match f.drop i with
   |.az::post=>bif !Nat.beq d0 c&&!ids.contains c&&env.clean (Nat.beq c)&&σ.clean (Nat.beq c)then some (env,(c,.slice d e [] 0 false)::σ.set d0 (.cells g (f.take i++.own c::post)))else none
   |_=>none)
  |_=>none
 |.b5 a b=>bif qx (swp a b) (swp a b) ids env σ then some (env.ck (swp a b),σ.ck (swp a b))else none
 |.rn a b=>bif qx (λc=>bif Nat.beq c a then b else c) (λc=>bif Nat.beq c b then a else c) ids env σ then some (env.ck (λc=>bif Nat.beq c a then b else c),σ.ck (λc=>bif Nat.beq c a then b else c))else none
 |.sc d0 k=>match σ.get d0 with
  |some (.cells g f)=>(match no k σ f with|none=>none|some j=>some (env,σ.set d0 (.cells g j)))
  |_=>none
 |.wi c=>match σ.get c with
  |some (.slice d e xs _ _)=>some (env,U.set c (.win d e xs) (σ.freeze [c]))
  |_=>none
def oU(ids:cr):List jg->ag->U->Option (ag×U)
 |[],env,σ=>some (env,σ)
 |m::r,env,σ=>match n3 ids env σ m with
  |none=>none
  |some (e,s)=>oU ids r e s
theorem NJ{G:bG}{env cC:ag}{σ σ2:U}{m:jg}(h:n3 G.ids env σ m=some (cC,σ2)):cu G env σ cC σ2:=by
 cases m with
 |bN J=>cases h;exact cu.freeze G env σ J
 |ad t b g l=>
  simp only[n3]at h;split at h
  .rename_i E;generalize a:((σ.get b).isNone&&_&&_&&_)=f at h;cases f with
   |false=>cases h
   |true=>
    cases h;simp only[Bool.and_eq_true,Bool.not_eq_true',Option.isNone_iff_eq_none]at a;exact avz t b g l (atH E) a.1.1.1 a.1.1.2 a.1.2 a.2
  .cases h
 |ac d0 b g l i=>
  simp only[n3]at h;split at h
  .rename_i n r k;split at h
   .rename_i post B;generalize a:(!Nat.beq d0 b&&_&&_&&_)=f at h;cases f with
    |false=>cases h
    |true=>
     cases h;simp only[Bool.and_eq_true,Bool.not_eq_true']at a;exact avy d0 b g l n (r.take i) post (by rw[k,<-B,List.take_append_drop]) a.1.1.1 a.1.1.2 a.1.2 a.2
   .cases h
  .cases h
 |b5 j d=>
  simp only[n3]at h;cases a:qx (swp j d) (swp j d) G.ids env σ with
  |false=>rw[a]at h;cases h
  |true=>rw[a]at h;cases h;exact cu.ck _ _ a
 |rn j d=>
  simp only[n3]at h;generalize a:qx _ _ _ _ _=f at h;cases f with
  |false=>cases h
  |true=>cases h;exact cu.ck _ _ a
 |wi b=>
  simp only[n3]at h;split at h
  .rename_i g l xs N bN c;cases h;exact(cu.freeze G env σ [b]).trans (cu.win (by rw[atG,c];simp only[Option.map_some,List.mem_singleton,if_true,bY.mQ]) rfl)
  .cases h
 |sc d0 O=>
  simp only[n3]at h;split at h
  .rename_i n r k;split at h
   .cases h
   .rename_i K z;cases h;refine λM I L j P e v=>⟨I,L,?_,v⟩;have ey:=r1 z;refine{e with bO:=λb o c=>?_,cq:=λb q c D C d=>?_}
    .rw[atC]at c;split at c
     .rename_i F;subst F;rw[k]at c;simp only[Option.map_some,Option.some.injEq]at c;subst c;have:=e.bO b _ k;simp only[bc]at this ⊢;rcases this with s|⟨d,H,s,y,A,w⟩
      .grind
      .exact .inr ⟨d,H,s,y,ey.rep e _ A,w⟩
     .exact e.bO b o c
    .have u:∀x,((σ.set d0 (.cells n K)).get x).isSome->(σ.get x).isSome:=λx p=>by
      rw[atC]at p;split at p
      .grind
      .exact p
     exact e.cq b q (u b c) (u q D) C d
  .cases h
def vr{G:bG}:∀{a:List jg} {env cC:ag} {σ σ2:U},oU G.ids a env σ=some (cC,σ2)->cu G env σ cC σ2
 |[],env,_,σ,_,h=>by cases h;exact cu.refl G env σ
 |m::r,env,cC,σ,σ2,h=>by
  simp only[oU]at h;split at h
  .cases h
  .rename_i c s b;exact(NJ b).trans (vr h)
def sQ(sl:cr)(c:cr)(σ:U)(env:ag):cr->Option ag
 |[]=>some []
 |k::r=>match env.find k with
  |none=>none
  |some a=>match(bif sl.any (Nat.beq k)then fk c σ a else some a)with
   |none=>none
   |some b=>match sQ sl c σ env r with
    |none=>none
    |some l=>some ((k,b)::l)
def zJ{sl:cr}{e:cr}{σ:U}{env:ag}:∀{ks:cr} {cC:ag},sQ sl e σ env ks=some cC->si σ env cC
 |[],cC,h=>by cases h;trivial
 |k::r,cC,h=>by
  simp only[sQ]at h;split at h
  .cases h
  .rename_i f d;split at h
   .cases h
   .rename_i g a;split at h
    .cases h
    .rename_i i c;cases h;refine⟨?_,zJ c⟩;rw[atH d];cases b:sl.any (Nat.beq k)with
     |false=>rw[b]at a;cases a;exact .refl _
     |true=>rw[b]at a;exact kk a
def qq(ids:cr)(c:List jg)(sl:cr)(ks a:cr)(env:ag)(σ:U):Option (ag×U):=match oU ids c env σ with
 |none=>none
 |some (e,s)=>match sQ sl a s e ks with
  |none=>none
  |some d=>match s.at a with
   |none=>none
   |some b=>some (d,b)
def Ec{G:bG}{b:List jg}{sl:cr}{ks c:cr}{env cC:ag}{σ σ2:U}(h:qq G.ids b sl ks c env σ=some (cC,σ2)):cu G env σ cC σ2:=by
 simp only[qq]at h;split at h
 .cases h
 .rename_i g s e;split at h
  .cases h
  .rename_i i d;split at h
   .cases h
   .rename_i f a;cases h;exact(vr e).trans (auy (zJ d) (atP a).1)
abbrev kG(e:ag):cr:=e.map (·.1)
def cu.go{G:bG}{env cC:ag}{σ σ2:U}(q:List jg)(sl:cr)(h:qq G.ids q sl (kG cC) σ2.ids env σ=some (cC,σ2)):cu G env σ cC σ2:=Ec h
def sR(ops:ia)(o:Oper)(env:ag):dK:=match o.guard with
 |none=>some true
 |some (c,want)=>match ops[c]? with
  |none=>none
  |some b=>match b.dst with
   |none=>none
   |some a=>match env.find a with
    |some (.bool true)=>some want
    |some (.bool false)=>some (!want)
    |some .undef=>some false
    |_=>none
theorem vP{ops:ia}{o:Oper}{env:ag}(h:sR ops o env=some true):fK ops o env:=by
 unfold sR at h;split at h
 .exact fK.n ‹_›
 .rename_i g i c;split at h
  .cases h
  .rename_i f b;split at h
   .cases h
   .rename_i e d;split at h
    .rename_i a;cases h;exact fK.g c b d (atH a) rfl
    .rename_i a;simp only[Option.some.injEq,Bool.not_eq_true']at h;subst h;exact fK.g c b d (atH a) rfl
    all_goals grind
def Fm{ops:ia}{o:Oper}{env:ag}(h:sR ops o env=some false):gX ops o env:=by
 unfold sR at h;split at h
 .cases h
 .rename_i g i c;split at h
  .cases h
  .rename_i f b;split at h
   .cases h
   .rename_i e d;split at h
    .rename_i a;cases h;exact gX.g c b d (atH a) rfl
    .rename_i a;simp only[Option.some.injEq,Bool.not_eq_false']at h;subst h;exact gX.g c b d (atH a) rfl
    .rename_i a;exact gX.undef c b d (atH a)
    .cases h
def oV{P:Program}(bm:eb)(ids:cr)(ops:ia)(s:hv):List (Nat×Hint P)->List (Nat×cr)->ag->U->Option (ag×U×List b7)
 |[],_,env,σ=>some (env,σ,[])
 |(i,h)::r,log,env,σ=>match ops[i]? with
  |none=>none
  |some o=>match sR ops o env with
   |none=>none
   |some false=>(match oV bm ids ops s r (bif iZ s i then(i,[])::log else log) (env.put o.dst .undef) σ with
    |none=>none
    |some (e,a,b)=>some (e,a,([],[])::b))
   |some true=>match qp bm ids o env σ h with
    |none=>none
    |some (.y g f,d)=>bif !iZ s i||AR σ g then(match oV bm ids ops s r (bif iZ s i then(i,g)::log else log) (env.put o.dst f) σ with
     |none=>none
     |some (e,a,b)=>some (e,a,d::b))else none
    |some (.v c j f,d)=>bif iZ s i&&env.clean [c].contains&&σ.clean [c].contains&&Gy j then(match oV bm ids ops s r ((i,[c])::log) (env.put o.dst f) ((c,j)::σ)with
     |none=>none
     |some (e,a,b)=>some (e,a,d::b))else none
    |some (.e M news f k,d)=>bif mY s i&&(!s.dw||lg s i M log)&&env.clean news.contains&&news.all (λc=>(σ.get c).isNone)then(match oV bm ids ops s r log (env.put o.dst f) k with
     |none=>none
     |some (e,a,b)=>some (e,a,d::b))else none
theorem FT{s:hv}{i:Nat}(h:iZ s i=false):mY s i=true:=by
 unfold iZ at h;unfold mY
 grind
def p5{P:Program}{bm:eb}{N:Nat}{ids:cr}{ops:ia}{s:hv}{K:ag->U->Prop}(W:fe P bm):∀{w:List (Nat×Hint P)} {q:List (Nat×cr)} {env n:ag} {σ m:U} {l:List b7},
  oV bm ids ops s w q env σ=some (n,m,l)->l=w.map (λp=>p.2.exp)->K n m->gh ⟨P,N,ids⟩ ops s q (w.map (·.1)) env σ K
 |[],q,env,n,σ,m,l,h,_,k=>by cases h;exact C.nil k
 |(i,J)::r,q,env,n,σ,m,l,h,he,k=>by
  simp only[oV]at h;split at h
  .cases h
  .rename_i o f;split at h
   .cases h
   .rename_i e;split at h
    .cases h
    .rename_i x t u b;cases h;simp only[List.map_cons,List.cons.injEq]at he ⊢;cases c:iZ s i with
     |true=>rw[c]at b;exact C.skip f (Fm e) c (p5 W b he.2 k)
     |false=>rw[c]at b;exact C.O2 f (Fm e) (FT c) (p5 W b he.2 k)
   .rename_i e;split at h
    .cases h
    .rename_i E z y g;generalize a:(!iZ s i||_)=j at h;cases j with
     |false=>cases h
     |true=>
      simp only[cond_true]at h;split at h
      .cases h
      .rename_i x t u b;cases h;simp only[List.map_cons,List.cons.injEq]at he ⊢;have d:=vN (N:=N) W g he.1;cases c:iZ s i with
       |true=>
        rw[c]at b a;exact C.y f (vP e) c (by simpa using a) d (p5 W b he.2 k)
       |false=>
        rw[c]at b;exact C.h9 f (vP e) (FT c) d (p5 W b he.2 k)
    .rename_i v I z y g;generalize a:(iZ s i&&_&&_&&_)=j at h;cases j with
     |false=>cases h
     |true=>
      simp only[cond_true]at h;simp only[Bool.and_eq_true]at a;split at h
      .cases h
      .rename_i x t u b;cases h;simp only[List.map_cons,List.cons.injEq]at he ⊢;have d:=vN (N:=N) W g he.1;exact C.v f (vP e) a.1.1.1 d.1 a.1.1.2 a.1.2 a.2 d.2 (p5 W b he.2 k)
    .rename_i D L z F y g;generalize a:(mY s i&&_&&_&&_)=j at h;cases j with
     |false=>cases h
     |true=>
      simp only[cond_true]at h;simp only[Bool.and_eq_true]at a;split at h
      .cases h
      .rename_i x t u b;cases h;simp only[List.map_cons,List.cons.injEq]at he ⊢;have d:=vN (N:=N) W g he.1;refine C.e f (vP e) a.1.1.1 d.1 a.1.1.2 a.1.2 ?_ (λH G B=>?_)
       .rw[List.all_eq_true];intro v A;rw[Bool.and_eq_true];exact⟨List.all_eq_true.1 d.2 v A,List.all_eq_true.1 a.2 v A⟩
       .obtain⟨rfl,rfl⟩:=B;exact p5 W b he.2 k
def GB(l:cr)(n:Nat):cr:=bif l.any (Nat.beq n)then l else n::l
def SK(ops:List Oper):ja:=
 (ops.foldl (λ(a:ja) o=>(o.after.toList.foldl (λc b=>bif Region.binds .any b then(a.getD (a.length-1-b.on) []).foldl GB (GB c b.on)else c) [])::a) []).reverse
def Hint.qV{P:Program}:Hint P->Bool
 |.hU ..|.dl ..|.ap ..=>true
 |.gs e _ _ _=>e
 |_=>false
def OO:Op->Bool
 |.assign _|.store ..|.mapUpdate ..|.insert ..|.entryStore ..|.makeSlice ..=>true
 |_=>false
def hintOf{P:Program}(a:List (Nat×Hint P))(i:Nat):Hint P:=match a with
 |[]=>.td
 |(k,h)::r=>bif Nat.beq k i then h else hintOf r i
def AN{P:Program}(a:List (Nat×Hint P)):Nat->List Oper->cr
 |_,[]=>[]
 |i,o::r=>bif OO o.op||(hintOf a i).qV then i::AN a (i+1) r else AN a (i+1) r
def AO(T:ja)(es left:cr):cr->hD->hD
 |[],f=>f
 |i::r,f=>bif (T.getD i []).any (λa=>left.any (Nat.beq a))then AO T es left r f
   else bif es.any (Nat.beq i)then AO T es left r (match f with|none=>some i|some x=>some x)else some i
def FU(T:ja)(es:cr):Nat->cr->cr
 |0,_=>[]
 |n+1,left=>match AO T es left left none with
  |none=>[]
  |some i=>i::FU T es n (left.filter λa=>!Nat.beq i a)
def gx{P:Program}(ops:ia)(dw:Bool)(c:List (Nat×Hint P)):hv×cr:=
 bif dw then
  let a:=SK ops.toList
  let b:=AN c 0 ops.toList
  (⟨true,a,b⟩,FU a b ops.size (List.range ops.size))
 else(⟨false,[],[]⟩,List.range ops.size)
def xS(N:Nat)(ops:ia)(dw:Bool)(s:hv)(l:cr):Bool:=bif dw then s.dw&&wH N ops s l else !s.dw&&s.T.isEmpty&&s.es.isEmpty&&qw N ops
def mL{P:Program}(bm:eb)(N:Nat)(ids:cr)(ops:ia)(dw:Bool)(s:hv)(l:cr)(d:List jg)(b:List (Nat×Hint P))(ks a:cr)(env:ag)(σ:U):Option (ag×U×List b7):=
 bif xS N ops dw s l then
  (match oU ids d env σ with
  |none=>none
  |some (e,XI)=>match oV bm ids ops s (l.map λi=>(i,hintOf b i)) [] e XI with
   |none=>none
   |some (g,s1,f)=>match sQ [] a s1 g ks with
    |none=>none
    |some h=>match s1.at a with
     |none=>none
     |some c=>some (h,c,f))
 else none
section code
variable {P:Program}{N:Nat}{ids:cr}{bm:eb}{env:ag}{σ:U}{Q:Exit->ag->U->Prop}{x y c:Code}
variable {dw:Bool}{ops:ia}
theorem A.R(W:fe P bm){id:Nat}(ak:List jg)(q:List (Nat×Hint P))(cC:ag)(σ2:U)
  (h:mL bm N ids ops dw (gx ops dw q).1 (gx ops dw q).2 ak q (kG cC) σ2.ids env σ=some (cC,σ2,(gx ops dw q).2.map λi=>(hintOf q i).exp)) (k:Q .normal cC σ2):aq ⟨P,N,ids⟩ (.region id ops dw) Q env σ:=by
 generalize ey:gx ops dw q=sl at h;obtain⟨s,l⟩:=sl;simp only[mL]at h;cases u:xS N ops dw s l with
 |false=>rw[u]at h;cases h
 |true=>
  rw[u]at h;simp only[cond_true]at h;split at h
  .cases h
  .rename_i am XI au;split at h
   .cases h
   .rename_i S Y av ab;split at h
    .cases h
    .rename_i ao ar;split at h
     .cases h
     .rename_i ah af;simp only[Option.some.injEq,Prod.mk.injEq]at h;obtain⟨rfl,rfl,ae⟩:=h;refine atL (vr au) ?_
      have C:∀K:ag->U->Prop,K S Y->gh ⟨P,N,ids⟩ ops s [] l am XI K:=λK ai=>by
       have:=p5 (N:=N) (K:=K) W ab (by rw[ae,List.map_map];rfl) ai;rw[List.map_map,show((λx:Nat×Hint P=>x.1)∘λi=>(i,hintOf q i))=λi=>i from rfl,List.map_id']at this;exact this
      refine auk ?_;have O:∃cC σ2,cu ⟨P,N,ids⟩ S Y cC σ2/\Q .normal cC σ2:=⟨ao,ah,auy (zJ ar) (atP af).1,k⟩;cases dw with
      |false=>
       simp only[xS,cond_false,Bool.and_eq_true,Bool.not_eq_true',List.isEmpty_iff]at u;have aj:s=⟨false,[],[]⟩:=by
        obtain⟨a,b,c⟩:=s
        grind
       have an:l=List.range ops.size:=by
        have:=congrArg Prod.snd ey;simpa [gx]using this.symm
       subst aj an;exact A.region u.2 (C _ O)
      |true=>
       simp only[xS,cond_true,Bool.and_eq_true]at u;obtain⟨aw,T,es⟩:=s;obtain⟨X,Z⟩:=u;simp only at X;subst X;exact A.any T es l W.mix Z (C _ O)
def atV(W:fe P bm){id:Nat}(b:List jg)(a:List (Nat×Hint P))(cC:ag)(σ2:U)
  (h:mL bm N ids ops dw (gx ops dw a).1 (gx ops dw a).2 b a (kG cC) σ2.ids env σ=some (cC,σ2,(gx ops dw a).2.map λi=>(hintOf a i).exp)) (k:aq ⟨P,N,ids⟩ y Q cC σ2):aq ⟨P,N,ids⟩ (.seq (.region id ops dw) y) Q env σ:=
 A.seq (A.R W b a cC σ2 h k)
variable {G:bG}{o:Operand}{p:Bool}
def atS(c:env.cc o=some (.bool p))(b:p=true)(k:aq G x Q env σ):aq G (.cond o x y) Q env σ:=A.cond (atu c) (λ_=>k) (λa=>by rw[b]at a;cases a)
def atI(c:env.cc o=some (.bool p))(b:p=false)(k:aq G y Q env σ):aq G (.cond o x y) Q env σ:=A.cond (atu c) (λa=>by rw[b]at a;cases a) (λ_=>k)
def A.J{G:bG}{α TL:Type}{J:α->Option TL}{r:TL}(C:α->ag)(S:α->U)
  (h:aq G x (kE (λO u=>∃g,J g=some r/\cu G O u (C g) (S g)) Q) env σ) (k:∀g,J g=some r->aq G y Q (C g) (S g)):aq G (.seq x y) Q env σ:=by
 refine A.seq (h.mono ?_);intro e O u q;cases e with
 |normal=>
  obtain⟨g,X,Y⟩:=q;exact atL Y (k g X)
 |_=>exact q
variable {S TL:Type}{XI:S}{r:TL}
theorem atx{α:Type}{l:List α}{B:Int->α->(S->Option TL)->S->Option TL}{K:S->Option TL}{cD:Nat}(w:bL (l.drop cD) cD B K XI=some r)(e:Nat->S->ag)(f:Nat->S->U)
  (p:cu G env σ (e cD XI) (f cD XI))
  (q:∀(j:Nat) (x:α) (bb:S->Option TL) (s:S),cD<=j->l[j]?=some x->B j x bb s=some r->aq G c (kE (λm i=>∃d,bb d=some r/\cu G m i (e (j+1) d) (f (j+1) d)) Q) (e j s) (f j s))
  (t:∀(j:Nat) (s:S),cD<=j->l.length<=j->K s=some r->aq G c (kE (λ_ _=>False) Q) (e j s) (f j s)):aq G (.loop c) Q env σ:=by
 refine A.loop (α:=Nat×S) (λa=>e a.1 a.2) (λa=>f a.1 a.2) (λa=>cD<=a.1/\bL (l.drop a.1) a.1 B K a.2=some r) (λa=>l.length-a.1) (cD,XI) ⟨Nat.le_refl _,w⟩ p ?_;rintro⟨j,s⟩ ⟨g,b⟩;simp only at g b ⊢;by_cases k:j<l.length
 .have n:l[j]?=some l[j]:=List.getElem?_eq_getElem k;rw[List.drop_eq_getElem_cons k]at b;refine(q j l[j] (bL (l.drop (j+1)) (j+1) B K) s g n b).mono ?_;intro u m i h;cases u with
  |normal=>
   obtain⟨d,v,o⟩:=h;exact⟨(j+1,d),⟨by omega,v⟩,by show l.length-(j+1)<l.length-j;omega,o⟩
  |_=>exact h
 .rw[List.drop_eq_nil_of_le (by omega)]at b;refine(t j s g (by omega) b).mono ?_
  grind
def at2{m:Nat}{i0 hi:Int}{B:Int->(S->Option TL)->S->Option TL}{K:Int->S->Option TL}(w:hM m i0 B K XI=some r)(n:m=(hi-i0).toNat)(f:Int->S->ag)(g:Int->S->U)
  (q:cu G env σ (f i0 XI) (g i0 XI))
  (t:∀(i:Int) (bb:S->Option TL) (s:S),i0<=i->i<hi->B i bb s=some r->aq G c (kE (λl k=>∃e,bb e=some r/\cu G l k (f (i+1) e) (g (i+1) e)) Q) (f i s) (g i s))
  (u:∀(i:Int) (s:S),i0<=i->hi<=i->K i s=some r->aq G c (kE (λ_ _=>False) Q) (f i s) (g i s)):aq G (.loop c) Q env σ:=by
 refine A.loop (α:=Nat×Int×S) (λa=>f a.2.1 a.2.2) (λa=>g a.2.1 a.2.2) (λa=>i0<=a.2.1/\a.1=(hi-a.2.1).toNat/\hM a.1 a.2.1 B K a.2.2=some r) (λa=>a.1) (m,i0,XI) ⟨Int.le_refl _,n,w⟩ q ?_;rintro⟨b,i,s⟩ ⟨j,n,h⟩;simp only at j n h ⊢;cases b with
 |zero=>
  refine(u i s j (by omega) h).mono ?_;intro o l k d;cases o with
  |normal=>exact d.elim
  |_=>exact d
 |succ b=>
  refine(t i (hM b (i+1) B K) s j (by omega) h).mono ?_;intro o l k d;cases o with
  |normal=>
   obtain⟨e,v,p⟩:=d;exact⟨(b,i+1,e),⟨by show i0<=i+1;omega,by show b=(hi-(i+1)).toNat;omega,v⟩,by show b<b+1;omega,p⟩
  |_=>exact d
def atN{F:(S->Option TL)->S->Option TL}{k:Nat}(q:iter F k XI=some r)(e:S->ag)(f:S->U)(m:cu G env σ (e XI) (f XI))
  (n:∀(bb:S->Option TL) (s:S),F bb s=some r->aq G c (kE (λj i=>∃d,bb d=some r/\cu G j i (e d) (f d)) Q) (e s) (f s)):aq G (.loop c) Q env σ:=by
 refine A.loop (α:=Nat×S) (λa=>e a.2) (λa=>f a.2) (λa=>iter F a.1 a.2=some r) (λa=>a.1) (k,XI) q m ?_;rintro⟨b,s⟩ g;cases b with
 |zero=>cases g
 |succ b=>
  refine(n (iter F b) s g).mono ?_;intro o j i h;cases o with
  |normal=>
   obtain⟨d,p,l⟩:=h;exact⟨(b,d),p,by show b<b+1;omega,l⟩
  |_=>exact h
theorem C4{I:aZ}{b:Nat}:∀{e:List H} {o:Nat} {x:H},gE I b e o->x∈e->∃c,aS I x c
 |[],_,_,_,h=>by simp at h
 |y::r,o,x,a,h=>by
  simp only[gE]at a;rcases List.mem_cons.1 h with rfl|h
  .grind
  .exact C4 a.2 h
theorem CL{I:aZ}{b:Nat}:∀{xs:List (List H)} {o:Nat} {e:List H},eZ I b xs o->e∈xs->∃o,gE I b e o
 |[],_,_,_,h=>by simp at h
 |y::r,o,x,a,h=>by
  simp only[eZ]at a;rcases List.mem_cons.1 h with rfl|h
  .grind
  .exact CL a.2 h
def DQ{I:aZ}:∀{e:List H} {vs:cR} {x:H},bJ I e vs->x∈e->∃a,aS I x a
 |[],_,_,_,h=>by simp at h
 |y::r,vs,x,b,h=>by
  simp only[bJ]at b;obtain⟨a,f,_,d,c⟩:=b;rcases List.mem_cons.1 h with rfl|h
  .exact⟨a,d⟩
  .exact DQ c h
def aui{I:aZ}:∀(n:Nat) (f:Bool) (xs:List (List H)) (v:Value),aS I (.bn f xs) v->y4 n xs
 |0,f,xs,v,h=>by
  simp only[aS]at h;obtain⟨m,c,_,b,a,_⟩:=h;exact Nat.le_trans b a
 |n+1,f,xs,v,h=>by
  simp only[aS]at h;obtain⟨m,c,_,b,a,_,k⟩:=h;refine⟨Nat.le_trans b a,λt d p q j=>?_⟩;rcases k with rfl|⟨s,o,_,i⟩
  .simp at d
  .obtain⟨r,e⟩:=CL i d;obtain⟨g,l⟩:=C4 e j;exact aui n p q g l
variable {I:aZ}{f:Bool}{xs:List (List H)}
def aur{β:Nat->Value}{v:Value}(h:au I β (.bn f xs) v):ij xs:=λa=>aui a f xs v (by simpa only[au]using h)
def avw{β:Nat->Value}:∀{cs:List H} {vs:cR} {i:Nat},br I β cs vs->cs[i]?=some (.bn f xs)->ij xs:=λh b=>by
 obtain⟨c,_,a⟩:=vM h b;exact aur a
variable {bN:Bool}
theorem FV{cx:c0}{β:Nat->Value}{σ:U}{w:World}(g:bx G cx I β σ w){d:Nat}{T sz k:Nat}(h:σ.get d=some (.slice T sz xs k bN)){v:Value}(f:au I β (.own d) v):ij xs:=by
 obtain⟨r,c,_,b,e⟩:=Dg g h f;intro a;cases a with
 |zero=>exact Nat.le_trans b e
 |succ a=>
  refine⟨Nat.le_trans b e,λo i p q l=>?_⟩;simp only[au]at f;have:=g.bO d _ h;simp only[bc]at this;rcases this with u|⟨_,rfl,_⟩|⟨t,aM,s,_,_,_,_,_,m,_⟩
  .grind
  .simp at i
  .obtain⟨j,n⟩:=DQ m (List.mem_flatten.2 ⟨o,i,l⟩);exact aui a p q j n
def atz(t:Nat)(h:env.find t=some (.bn f xs))(k:ij xs->aq G c Q env σ):aq G c Q env σ:=by
 refine atQ λj i m e=>?_;obtain⟨I,n,l,a,g,d⟩:=e;have b:=a t;rw[atH h]at b;exact(k (aur b)).use j i m ⟨I,n,l,a,g,d⟩
def aun{T sz k:Nat}{d:Nat}(t:Nat)(f:env.find t=some (.own d))(h:σ.get d=some (.slice T sz xs k bN))(k:ij xs->aq G c Q env σ):aq G c Q env σ:=by
 refine atQ λm l n i=>?_;obtain⟨I,o,e,a,j,g⟩:=i;have b:=a t;rw[atH f]at b;exact(k (FV e h b)).use m l n ⟨I,o,e,a,j,g⟩
def atM{T d:Nat}{cs:List H}(t i:Nat)(g:env.find t=some (.ptr d 0))(h:σ.get d=some (.cells T cs))(hi:cs[i]?=some (.bn f xs))(k:ij xs->aq G c Q env σ):aq G c Q env σ:=by
 refine atQ λq p r n=>?_;obtain⟨I,s,e,b,o,j⟩:=n;have a:=b t;rw[atH g]at a;simp only[au]at a;obtain⟨v,m,_⟩:=a;obtain⟨u,_,_,l,_⟩:=bx.box e h m;exact(k (avw l hi)).use q p r ⟨I,s,e,b,o,j⟩
def aum{T d d2 o sz bE:Nat}{cs:List H}(t i:Nat)(f:env.find t=some (.ptr d 0))(h:σ.get d=some (.cells T cs))(hi:cs[i]?=some (.own d2))(s:σ.get d2=some (.slice o sz xs bE bN))(k:ij xs->aq G c Q env σ):aq G c Q env σ:=by
 refine atQ λr p u m=>?_;obtain⟨I,v,b,e,n,g⟩:=m;have a:=e t;rw[atH f]at a;simp only[au]at a;obtain⟨x,l,_⟩:=a;obtain⟨w,_,_,j,_⟩:=bx.box b h l;obtain⟨y,_,q⟩:=vM j hi;exact(k (FV b s q)).use r p u ⟨I,v,b,e,n,g⟩
def atA(cC:ag)(σ2:U)(h:aq G y Q cC σ2->aq G (.seq x y) Q env σ)(k:aq G y Q cC σ2):aq G (.seq x y) Q env σ:=h k
end code
def eY(b:Bool):b=true\/b=false:=by cases b<;>simp
def jy{p q:Bool}(h:p=true):H.bool q=.bool (p&&q):=by rw[h];rfl
def jY{p q:Bool}(h:p=false):H.bool false=.bool (p&&q):=by rw[h];rfl
def g0{p q:Bool}(h:p=true):H.bool true=.bool (p||q):=by rw[h];rfl
def eS{p q:Bool}(h:p=false):H.bool q=.bool (p||q):=by rw[h];rfl
def BE{p x y:Bool}(h:p=true):H.bool x=.bool (bif p then x else y):=by rw[h];rfl
def Ht{p x y:Bool}(h:p=false):H.bool y=.bool (bif p then x else y):=by rw[h];rfl
def ax{p q:Bool}(h:p=q):H.bool p=.bool q:=by rw[h]
section
variable {P:Program}
def Z{a b:H}(e:a=b):Hint P:=.to .td a b e
def bh{sz:Nat}{xs:List (List H)}{i:Int}{row:List H}(a:ny sz xs i row):Hint P:=.ix sz xs i row a
def eK(d off:Nat){sz:Nat}{xs:List (List H)}{i:Int}{row:List H}(a:ny sz xs i row):Hint P:=.lo d sz xs i off row a
def iY(d:Nat){sz:Nat}{xs:List (List H)}{i:Int}{off:Nat}{ca:List H}{a:List (List H)}(b:vE sz xs i off ca a){k:Nat}(c:(k:Int)<=i):Hint P:=.so d sz xs i off ca a b k c
def aH{f:FuncId}{σs:U}{a:List H}{r:H}(b:bB P f σs a r)(c:be P f):Hint P:=.ro 0 f σs a r b c
def GC(d:Nat){f:FuncId}{σs:U}{a:List H}{r:H}(b:bB P f σs a r)(c:be P f):Hint P:=.ro d f σs a r b c
def iJ{f:FuncId}{a b:List H}{r:H}(c:bB P f [] (b++a) r)(d:be P f):Hint P:=.rf f a b r c d
def bp(d:cr){f:FuncId}{a:List H}{r:H}(b:bB P f [] a r)(c:be P f):Hint P:=.le d f a r b c
def hB{E:Nat}{k:IntKind}{c:List (H×H)}{n:Int}{a:H}{b:Bool}(d:vB P E k c n a b):Hint P:=.lk E k c n a b d
def pl{k:IntKind}{b:List (H×H)}{n:Int}{v:H}{a:List (H×H)}(c:sB k b n v a):Hint P:=.ko k b n v a c
def Hp{k:IntKind}{a:List (H×H)}{n:Int}(b:vC k a n):Hint P:=.lm k a n b
def hV(h news:cr){f:FuncId}{b:List H}{r:H}{σ2:U}(d:cp P f [] b (λa c=>a=r/\c=σ2))(e:be P f)(g:mh σ2):Hint P:=.dl h news f b r σ2 d e g
def bV(news:cr){f:FuncId}{b2:U}{b:List H}{r:H}{σ2:U}(d:cp P f b2 b (λa c=>a=r/\c=σ2))(e:be P f):Hint P:=.hU news f b2 b r σ2 d e
def dH(d2:Nat){sz bytes:Nat}{xs ys a:List (List H)}(b:vz sz bytes xs ys a):Hint P:=.ap d2 sz bytes xs ys a b
def mV(d2:Nat){sz:Nat}{xs:List (List H)}{a:Int}{b:List (List H)}(c:j4 sz xs a (xs.length:Int) b):Hint P:=.ws d2 sz xs a b c
def ey{sz:Nat}{xs:List (List H)}{a b:Int}{c:List (List H)}(d:j4 sz xs a b c):Hint P:=.sl sz xs a b c d
end
theorem cT{α:Type}{l:List α}{j:Nat}{x:α}(h:l[j]?=some x):decide ((j:Int)<(l.length:Int))=true:=by grind
def cS{α:Type}{l:List α}{j:Nat}(h:l.length<=j):decide ((j:Int)<(l.length:Int))=false:=decide_eq_false (by omega)
variable {h i:Int}
def BL(a:i<h+1):decide (i<=h)=true:=decide_eq_true (by omega)
def xk(a:h<=i):decide (i<h)=false:=decide_eq_false (by omega)
def Bx(a:h+1<=i):decide (i<=h)=false:=decide_eq_false (by omega)
def Ba{α:Type}(e:eT α){l m:List α}{a:Int}(h:gT l a (l.length:Int)=some m):j4 e.sz (af e l) a ((af e l).length:Int) (af e m):=by rw[i1];exact sl e h
def sH(P:Program)(T:Nat):List (Nat×Nat)->Nat->Prop
 |[],_=>True
 |(off,_)::r,n=>s8 P T n off/\sH P T r (n+1)
def sH.get{P:Program}{T:Nat}:∀{dn:List (Nat×Nat)} {n f off sz:Nat},sH P T dn n->dn[f]?=some (off,sz)->s8 P T (n+f) off
 |[],_,_,_,_,_,h=>by simp at h
 |(o,s)::r,n,0,off,sz,q,h=>by simp at h;obtain⟨rfl,rfl⟩:=h;exact q.1
 |(o,s)::r,n,f+1,off,sz,q,h=>by
  have:=sH.get (f:=f) (off:=off) (sz:=sz) q.2 (by simpa using h)
  rwa [Nat.add_right_comm,Nat.add_assoc]at this
def vt(P:Program)(T:Nat):List (Nat×Nat)->List Bool->Nat->Prop
 |(off,b)::r,a::s,n=>qy P T n off b a/\vt P T r s (n+1)
 |_,_,_=>True
def vt.get{P:Program}{T:Nat}:∀{dn:List (Nat×Nat)} {u:List Bool} {n f off sz:Nat} {bU:Bool},vt P T dn u n->dn[f]?=some (off,sz)->u[f]?=some bU->qy P T (n+f) off sz bU
 |[],_,_,_,_,_,_,_,h,_=>by simp at h
 |_::_,[],_,_,_,_,_,_,_,h=>by simp at h
 |(o,s)::r,g::u,n,0,off,sz,bU,C,h,q=>by simp at h q;obtain⟨rfl,rfl⟩:=h;subst q;exact C.1
 |(o,s)::r,g::u,n,f+1,off,sz,bU,C,h,q=>by
  have:=vt.get (f:=f) (off:=off) (sz:=sz) (bU:=bU) C.2 (by simpa using h) (by simpa using q)
  rwa [Nat.add_right_comm,Nat.add_assoc]at this
def Tf{P:Program}{T:Nat}{c:cR}{a:List (Nat×Nat)}{b:List Bool}(i:s9 P T c a)(d:sH P T a 0)(e:vt P T a b 0):gU P T (.struct c a b):=
 ⟨i,λf j k h=>by have:=d.get h;rwa [Nat.zero_add]at this,λf j k l h g=>by have:=e.get h g;rwa [Nat.zero_add]at this⟩
def at8{P:Program}{f:FuncId}{d σ2 σ3:U}{args:List H}{r r':H}(bN:cr)(h:cp P f d args (λa b=>a=r/\b=σ2))(n:fk σ3.ids (σ2.freeze bN) r=some r')(v:(σ2.freeze bN).at σ3.ids=some σ3):
  cp P f d args (λa b=>a=r'/\b=σ3):=λw C I D B y m=>Calls.mono (h w C I D B y m) λ_ _ ⟨e,A,F,b,E,g,⟨j,k⟩,l,i⟩=>by
 subst j k;obtain⟨u,bp,c⟩:=i.yU bN;refine⟨e,A,r',σ3,u,g,⟨rfl,rfl⟩,(kk n).rep c e (vf bp (eC.refl g) _ _ l),c.sub λx o z=>?_⟩;obtain⟨p,s,q,t⟩:=kr σ3 x o z;rw[<-q,<-t];exact(atP v).1.mem p s
def ep.at{P:Program}{f:FuncId}{u σ2:U}{args:List H}{r:H}(l:List (Nat×Nat))(h:cp P f u args (λa q=>a=r/\q=σ2)):
  cp P f (u.ck (jx l)) (iB (jx l) args) (λa q=>a=r.ck (jx l)/\q=σ2.ck (jx l)):=
 (h.at l).mono λa s O=>by
  obtain⟨S,XI,⟨rfl,rfl⟩,Q,C⟩:=O;exact⟨Q,C⟩
def mM(bm:eb)(env:ag)(σ:U):ResultVar->Option H
 |.tmp t=>env.find t
 |.cell a b=>match env.find a with
  |some (.ptr d 0)=>(match σ.get d with
   |some (.cells _ cs)=>(match bm.get b with
    |some i=>bif Nat.beq cs.length i.sz&&(i.bU||Nat.blt 0 i.sz)then iy i.bU i.sz cs else none
    |none=>none)
   |_=>none)
  |_=>none
def wP(bm:eb)(env:ag)(σ:U):List ResultVar->Option (List H)
 |[]=>some []
 |a::r=>match mM bm env σ a with|none=>none|some x=>match wP bm env σ r with|none=>none|some xs=>some (x::xs)
def Bb(bm:eb)(env:ag)(σ:U):List ResultVar->Option H
 |[]=>some (.bP [])
 |[a]=>mM bm env σ a
 |[a,b]=>match mM bm env σ a with|none=>none|some x=>match mM bm env σ b with|none=>none|some y=>some (.bP [x,y])
 |[a,b,c]=>match mM bm env σ a with|none=>none|some x=>match mM bm env σ b with|none=>none|some y=>match mM bm env σ c with|none=>none|some z=>some (.bP [x,y,z])
 |a::b::c::d::r=>match wP bm env σ (a::b::c::d::r)with|none=>none|some xs=>some (.bP xs)
def p6{P:Program}{N:Nat}{ids:cr}{bm:eb}(W:fe P bm){env:ag}{σ:U}{v:ResultVar}{a:H}(h:mM bm env σ v=some a):je ⟨P,N,ids⟩ env σ v a:=by
 cases v with
 |tmp t=>exact y5.tmp h
 |cell p j=>
  simp only[mM]at h;split at h
  .rename_i l c;split at h
   .rename_i k f g;split at h
    .rename_i i e;generalize b:(Nat.beq f.length i.sz&&_)=d at h;cases d with
     |false=>cases h
     |true=>
      simp only[cond_true]at h;rw[Bool.and_eq_true]at b;exact y5.cell (e9.get W.tys e).ty (atH c) g b.1 b.2 h
    .cases h
   .cases h
  .cases h
def Fo{P:Program}{N:Nat}{ids:cr}{bm:eb}(W:fe P bm){env:ag}{σ:U}:∀{l:List ResultVar} {xs:List H},wP bm env σ l=some xs->o1 ⟨P,N,ids⟩ env σ l xs
 |[],xs,h=>by cases h;exact .nil
 |a::r,xs,h=>by
  simp only[wP]at h;split at h
  .cases h
  .rename_i x b;split at h
   .cases h
   .rename_i d c;cases h;exact .cons (p6 W b) (Fo W c)
def Mg{P:Program}{N:Nat}{ids:cr}{bm:eb}(W:fe P bm){env:ag}{σ:U}{l:List ResultVar}{a:H}(h:Bb bm env σ l=some a):jX ⟨P,N,ids⟩ env σ l a:=by
 unfold Bb at h;split at h
 .cases h;exact .zero
 .exact .one (p6 W h)
 .split at h
  .cases h
  .rename_i x b;split at h
   .cases h
   .rename_i y c;cases h;exact .two (p6 W b) (p6 W c)
 .split at h
  .cases h
  .rename_i x b;split at h
   .cases h
   .rename_i y c;split at h
    .cases h
    .rename_i f e;cases h;exact .three (p6 W b) (p6 W c) (p6 W e)
 .split at h
  .cases h
  .rename_i xs d;cases h;exact .more (Fo W d) (by simp)
def Bc(bm:eb)(ids:cr)(f:List jg)(c:cr)(l:List ResultVar)(env:ag)(σ:U):Option (H×U):=match oU ids f env σ with
 |none=>none
 |some (e,s)=>match Bb bm e s l with
  |none=>none
  |some a=>match fk c s a with
   |none=>none
   |some b=>match s.at c with
    |none=>none
    |some d=>some (b,d)
def oQ(G:bG)(fn:Func)(Post:H->U->Prop):Exit->ag->U->Prop:=λc env σ=>∃a b,cu G env σ a b/\Ff G fn Post c a b
variable {fn:Func}
def atv{P:Program}{N:Nat}{ids:cr}{bm:eb}(W:fe P bm){env:ag}{σ σ2:U}{R:H}{e:Exit}(i:List jg)(k:(match e with|.ret|.normal=>true|_=>false)=true)(h:Bc bm ids i σ2.ids fn.results.toList env σ=some (R,σ2)):
  oQ ⟨P,N,ids⟩ fn (λa b=>a=R/\b=σ2) e env σ:=by
 simp only[Bc]at h;split at h
 .cases h
 .rename_i d c l;split at h
  .cases h
  .rename_i a j;split at h
   .cases h
   .rename_i o f;split at h
    .cases h
    .rename_i n g;cases h;refine⟨d,c,vr l,?_⟩;have m:∃bN x r b,jX ⟨P,N,ids⟩ d (c.freeze bN) fn.results.toList x/\eX (c.freeze bN) x r/\(∀p∈b,(c.freeze bN).get p.1=some p.2)/\(r=R/\b=σ2):=by
      refine⟨[],a,R,σ2,?_,?_,?_,rfl,rfl⟩
      .rw[at3];exact Mg W j
      .rw[at3];exact kk f
      .rw[at3];exact(atP g).1.mem
     cases e<;>first|exact m|cases k
def bq{P:Program}{f:FuncId}{c:Code}{a:U}{args:List H}{Post:H->U->Prop}(b:P.funcs[f]?=some fn)(d:fn.body=some c)(e:Nat.ble args.length fn.ntmps=true)
  (h:aq ⟨P,fn.ntmps,a.ids⟩ c (oQ ⟨P,fn.ntmps,a.ids⟩ fn Post) (r9 0 args) a):cp P f a args Post:=
 cp.enter b d (Nat.le_of_ble_eq_true e) λ_=>auk h
theorem Av{α:Type}{a b l:List α}(h:dr a b=some l):l=a++b:=by
 unfold dr at h
 grind
theorem zj{P:Program}{f:FuncId}{D E sz:Nat}{xs ys:List (List H)}(t:∀n c w,Calls P f #[.slice none n c] w λe w'=>e=.returned (.slice none 0 0)/\w'=w)
    (u:xs≠[]->cp P f [] [.bn false xs] (λa g=>a=.own D/\g=[(D,.slice E sz ys 0 false)])) (m:xs=[]->cp P f [] [.fc] (λa g=>a=.own D/\g=[(D,.slice E sz ys 0 false)]))
    (s:xs=[]->ys=[]):cp P f [] [.bn false xs] (λa g=>a=.own D/\g=[(D,.slice E sz ys 0 false)]):=by
  intro q w I l z j i;by_cases b:xs=[]
  · have d:=s b
    subst b d;simp only[br,au,aS]at i;obtain⟨B,A,rfl,⟨a,c,rfl,_,r,_,_⟩,rfl⟩:=i;cases a with
    |some p=>exact m rfl q w I l _ j (by simp only[br,au,aS];exact⟨_,_,rfl,⟨_,_,rfl,r⟩,rfl⟩)
    |none=>
      refine Calls.mono (t _ _ w) ?_;rintro e w' ⟨rfl,rfl⟩;refine⟨_,rfl,.own D,_,I,λk=>if k=D then .slice none 0 0 else l k,⟨rfl,rfl⟩,by simp[au,fl],?_⟩
      exact{j with
        bO:=λx o h=>by
          rw[atw]at h;split at h
          · rename_i e;subst e;injection h with h;subst h
            simp only[bc,if_true]
            grind
          · simp[U.get]at h
        cq:=λx y b d C G m F=>by
          rw[atw]at b d;split at b
          · rename_i e;subst e
            split at d
            · omega
            · simp[U.get]at d
          · simp[U.get]at b
        keep:=λk v=>by simp[U.ids]at v}
  · exact u b q w I l z j i
def OP(Q:Exit->ag->U->Prop):Exit->ag->U->Prop
 |.goto _,_,_=>False
 |e,env,σ=>Q e env σ
def A.scope{G:bG}{c:Code}{Q:Exit->ag->U->Prop}{env:ag}{σ:U}(h:aq G c (OP Q) env σ):aq G (.scope c) Q env σ:=by
 refine atQ λcx a w u=>wp_scope_straight (wp_mono (aq.use h cx a w u) ?_);rintro e X w' ⟨O,C,S,q⟩;cases e<;>first|exact⟨O,C,S,q⟩|exact q.elim
def A.label{G:bG}{l:Nat}{Q:Exit->ag->U->Prop}{env:ag}{σ:U}(h:Q .normal env σ):aq G (.label l) Q env σ:=atQ λ_ _ _ q=>wp_label ⟨env,σ,q,h⟩
end
end
section
set_option linter.all false
open Go Go.ChangeShapes Go.WideShapes Go.ChangeAt Go.RowKit
structure qg(P:Program)(T:Nat){α:Type}(enc:α->List H)(n:Nat):Prop where
 cells:P.cellsOf T=n
 read:∀(eo:Type) (jF:TypeId×Value->eo) (w:World) (fx:Nat) (h7:Nat->Bool) (hd:Bool) (fuel:Nat) (cs:cR) (x:DataW eo×List MemPlace),
  DataW.trod jF P w fx h7 hd fuel T cs=some x->∃a:α,bJ (eA w) (enc a) cs
variable {P:Program}{T:Nat}
def Mh{k:IntKind}(h:P.underlying T=some (.int k))(b:P.cellsOf T=1):qg P T (λn:Int=>[.int k n]) 1:=by
 refine⟨b,λeo m o i j l fuel g p a=>?_⟩;cases fuel with
 |zero=>cases a
 |succ n=>
  unfold DataW.trod at a;rw[h]at a;split at a<;>first|(simp at a;done)|skip
  all_goals (rename_i c;cases c)
  rename_i f e;split at a
  .rename_i d;obtain⟨rfl,_⟩:=d
   exact⟨e,by simp[bJ,aS]⟩
  .cases a
def BN{α β:Type}{f:α->Option β}:∀{l:List α} {r:List β},l.mapM f=some r->r.length=l.length/\∀(i:Nat) (a:α),l[i]?=some a->∃b:β,f a=some b/\r[i]?=some b
 |[],r,h=>by simp at h;subst h;exact⟨rfl,λi a c=>by simp at c⟩
 |x::l,r,h=>by
  rw[List.mapM_cons]at h;cases d:f x with
  |none=>rw[d]at h;cases h
  |some y=>
   rw[d]at h;cases e:l.mapM f with
   |none=>rw[e]at h;cases h
   |some k=>
    rw[e]at h;cases h;obtain⟨j,g⟩:=BN e;refine⟨by simp[j],λi a c=>?_⟩;cases i with
    |zero=>simp at c;subst c;exact⟨y,d,rfl⟩
    |succ i=>simpa using g i a (by simpa using c)
theorem CO{α β:Type}{p:Nat->β->Prop}:∀(n:Nat),(∀i,i<n->∃b,p i b)->∃l:List β,l.length=n/\∀i b,l[i]?=some b->p i b
 |0,_=>⟨[],rfl,λi b a=>by simp at a⟩
 |n+1,a=>by
  obtain⟨l,c,e⟩:=CO (α:=α) n (λi d=>a i (by omega));obtain⟨b,f⟩:=a n (by omega);refine⟨l++[b],by simp[c],λi h g=>?_⟩;by_cases d:i<n
  .grind
  .grind
variable {a:Addr}
theorem KT{w:World}{e:Nat}{n:Nat}{cs:cR}(h:w.cells? e a n=some cs):cs.length=n/\∀i v,cs[i]?=some v->w.cell? (a.add i)=some v:=by
 unfold World.cells? at h;split at h
 .obtain⟨f,c⟩:=BN h;have b:cs.length=n:=by simpa using f
  refine⟨b,λi v d=>?_⟩;have g:i<n:=by rw[<-b];exact(List.getElem?_eq_some_iff.1 d).1
  obtain⟨l,j,k⟩:=c i i (by simp[g])
  grind
 .cases h
def CA{α:Type}{I:aZ}{b sz:Nat}{enc:α->List H}:∀(l:List α) (o:Nat),(∀r,(enc r).length=sz)->(∀i a,l[i]?=some a->gE I b (enc a) (o+i*sz))->eZ I b (l.map enc) o
 |[],_,_,_=>trivial
 |x::r,o,c,h=>by
  simp only[List.map_cons,eZ];refine⟨by simpa using h 0 x rfl,?_⟩;rw[c x];refine CA r (o+sz) c λi a d=>?_;have:=h (i+1) a (by simpa using d)
  rwa [Nat.add_mul,Nat.one_mul,Nat.add_comm (i*sz),<-Nat.add_assoc]at this
def K6(h:a.spot=none)(i:Nat):a.add i=⟨a.block,a.off+i,none⟩:=by
 obtain⟨b,c,d⟩:=a;simp only at h;subst h;exact g5 b c i
variable {E:Nat}{α:Type}
theorem KU{e:eT α}(h:P.underlying T=some (.slice E))(u:P.cellsOf T=1)(z:qg P E e.enc e.sz)(W:0<e.sz):qg P T (λl:List α=>[.bn false (af e l)]) 1:=by
 refine⟨u,λeo C f k A B fuel Z ae b=>?_⟩;cases fuel with
 |zero=>cases b
 |succ n=>
  unfold DataW.trod at b;rw[h]at b;split at b<;>first|(simp at b;done)|skip
  all_goals (rename_i Q;try cases Q)
  .refine⟨[],?_⟩;simp only[bJ,aS,af,List.map_nil];exact⟨_,_,rfl,⟨none,0,rfl,by simp,by simp[maxLen],by simp,by simp⟩,rfl⟩
  .rename_i a i aM;split at b
   .rename_i p;obtain⟨_,O,I⟩:=p;dsimp only at b;generalize S:(List.range i).mapM (λc=>(f.cells? k (a.add (c*P.cellsOf E)) (P.cellsOf E)).bind (DataW.trod C P f k A B n E))=L at b;cases L with
    |none=>cases b
    |some M=>
     obtain⟨F,G⟩:=BN S;have X:M.length=i:=by simpa using F
     have D:∀c,c<i->∃g:α,∃d:cR,bJ (eA f) (e.enc g) d/\∀m o,d[m]?=some o->f.cell? ((a.add (c*P.cellsOf E)).add m)=some o:=λc R=>by
      obtain⟨U,j,_⟩:=G c c (by simp[R]);cases q:f.cells? k (a.add (c*P.cellsOf E)) (P.cellsOf E)with
      |none=>rw[q]at j;cases j
      |some d=>
       rw[q]at j;obtain⟨g,p⟩:=z.read eo C f k A B n d U j;exact⟨g,d,p,(KT q).2⟩
     obtain⟨l,y,K⟩:=CO (α:=Unit) i D;refine⟨l,?_⟩;simp only[bJ,aS];refine⟨_,_,rfl,⟨some a,aM,by rw[i1,y],by rw[i1,y];exact O,I,by simp,?_⟩,rfl⟩;by_cases Y:i=0
     .left;have:l=[]:=List.eq_nil_of_length_eq_zero (by omega);subst this;rfl
     .right;have v:a.spot=none:=by
       obtain⟨g,d,r,t⟩:=D 0 (by omega);have x:d.length=e.sz:=by rw[hy _ _ r,e.hz]
       cases w:d with
       |nil=>rw[w]at x;simp at x;omega
       |cons H V=>
        have:=t 0 H (by rw[w];rfl);simp only[Nat.zero_mul,Addr.add,if_true]at this;simp only[World.cell?]at this;split at this
        .simp_all
        .grind
      refine⟨a.block,a.off,?_,?_⟩
      .obtain⟨g,ab,s⟩:=a;simp only at v;subst v;rfl
      .refine CA l a.off e.hz λc N u=>?_;obtain⟨d,r,t⟩:=K c N u;refine yT _ _ d r λm o J=>?_;have:=t m o J;rw[z.cells,K6 v,g5]at this;exact this
   .cases b
structure Cs(P:Program)(T:Nat){α:Type}(bI:α->H)(ok:α->Prop):Prop where
 read:∀(eo:Type) (jF:TypeId×Value->eo) (w:World) (fx:Nat) (v:Value) (d:DataW eo) (ps:List MemPlace),Value.okWide P w .any fx T v->DataW.Trod jF P w 0 (λ_=>true) true T v d ps->∃a:α,ok a/\aS (eA w) (bI a) v
theorem Mi{bI:α->H}(f:qg P T (λa=>[bI a]) 1)(g:∀w b v,Value.okWide P w .any b T v->v.cells=#[v]):Cs P T bI (λ_=>True):=by
 refine⟨λeo i w b v h j e c=>?_⟩;obtain⟨fuel,c⟩:=c;obtain⟨a,d⟩:=f.read _ _ _ _ _ _ _ _ _ c;rw[g w b v e]at d;simp only[bJ]at d
 grind
def KV(h:P.underlying T=some (.slice E))(w:World)(b:Nat)(v:Value)(a:Value.okWide P w .any b T v):v.cells=#[v]:=by
 simp only[Value.okWide,h,Cell.okWide,Cell.ok]at a;cases v<;>first|rfl|(simp at a;done)
structure s0(P:Program)(gK:List Nat){β:Type}(ch:β->List H)(ok:β->Prop):Prop where
 read:∀(eo:Type) (jF:TypeId×Value->eo) (w:World) (fx:Nat) (vs:cR) (b9:List (DataW eo)) (ps:List MemPlace),(∀(j:Nat) t v,gK[j]?=some t->vs[j]?=some v->Value.okWide P w .any fx t v)->
  DataW.TrodAll jF P w 0 (λ_=>true) true gK vs b9 ps->∃b:β,ok b/\bJ (eA w) (ch b) vs
def K7:s0 P [] (λ_:Unit=>[]) (λ_=>True):=⟨λ_ _ _ _ c a _ _ b=>by
 cases c<;>cases a<;>first|exact⟨(),trivial,rfl⟩|exact b.elim⟩
variable {β:Type}
def KW{m:cr}{j:α->H}{i:β->List H}{k:α->Prop}{h:β->Prop}(z:Cs P T j k)(t:s0 P m i h):s0 P (T::m) (λp:α×β=>j p.1::i p.2) (λp=>k p.1/\h p.2):=by
 refine⟨λeo n o l f e D g b=>?_⟩;cases f with
 |nil=>cases e<;>exact b.elim
 |cons c f=>
  cases e with
  |nil=>exact b.elim
  |cons d e=>
   obtain⟨p,B,q,r,_⟩:=b;obtain⟨a,w,x⟩:=z.read eo n o l c d p (g 0 T c rfl rfl) q;obtain⟨y,s,u⟩:=t.read eo n o l f e B (λA C c b v=>g (A+1) C c (by simpa using b) (by simpa using v)) r;exact⟨(a,y),⟨w,s⟩,by simp only[bJ];exact⟨c,f,rfl,x,u⟩⟩
def CB{eo:Type}{enc:TypeId×Value->eo}{P:Program}(j:laidOutB P=true){W W':World}{l:Nat->Bool}(f:Below W.heap.size W W'):∀{c:cr} {vs:cR} {a:List (DataW eo)} {ps:List MemPlace},(∀t∈c,P.readableRec t=true/\t<P.types.size)->
  DataW.TrodAll enc P W 0 (λ_=>true) true c vs a ps->(∀x∈ps,x.block<W.heap.size)->(∀x∈ps,l x.block=true)->DataW.TrodAll enc P W' 0 l true c vs a ps
 |[],vs,a,ps,_,h,_,_=>by cases vs<;>cases a<;>exact h
 |t::c,vs,a,ps,e,h,i,g=>by
  cases vs with
  |nil=>cases a<;>exact h.elim
  |cons v vs=>
   cases a with
   |nil=>exact h.elim
   |cons d a=>
    obtain⟨p,q,m,n,rfl⟩:=h;have k:=e t (by simp)
    exact⟨p,q,WideElems.Trod_stays j k.1 k.2 m (λx b=>f.same (i x (by simp[b]))) (λx b=>g x (by simp[b])),
     CB j f (λt o=>e t (by simp[o])) n (λx b=>i x (by simp[b])) (λx b=>g x (by simp[b])),rfl⟩
variable {eo:Type}{enc:TypeId×Value->eo}{f qh:Nat}{fn:Func}
theorem KX{s:ChangeSpec}(V:laidOutB P=true)(q:fn.resultTypes=#[qh])(r:P.underlying qh=some .bool)(y:s.vars=[])
    (T:∀t∈fn.params.toList,P.readableRec t=true/\t<P.types.size) {W:World} {args:fz} (L:∃l:List H,bJ (eA W) l args.toList/\bB P f [] l (.bool true))
    (R:∀a:List (DataW eo),a.length=fn.params.size->(s.fn eo a).results=[.lit (.bool true)]/\(s.fn eo a).args=a/\(s.fn eo a).vars=[])
    (X:Nat) (a Y:List (DataW eo)) (O:List MemPlace) (aj:∀(j:Nat) t v,fn.params[j]?=some t->args[j]?=some v->Value.okWide P W .any X t v)
    (u:DataW.Whole enc P fn.params.toList s.vars false W args.toList a Y O) :
    Calls P f args W λe W'=>∃v,e=.returned v/\s.post enc P fn false true false false W args v W':=by
  have o:=u;obtain⟨g,ax,N,x,rfl,am,aq⟩:=u;rw[y]at x;obtain⟨rfl,rfl⟩:=trodVars_none x;simp only[List.append_nil]at o;obtain⟨l,D,S⟩:=L
  have K:bx ⟨P,0,[]⟩ (hY (eA W) (λ_=>.nilFunc) [] W) (eA W) (λ_=>.nilFunc) [] W:=
    {good:=r0,er:=rW,e8:=bQ.refl _,eW:=λ_ _ _ _=>rfl,frame:=λ_ _ _=>rfl,size:=Nat.le_refl _,tape:=rfl,os:=rfl,output:=rfl,drawn:=Nat.le_refl _,
     bO:=λB aw c=>by simp[U.get]at c,cq:=λB ao c=>by simp[U.get]at c,keep:=λB c=>by simp at c}
  have w:=S _ W (eA W) (λ_=>.nilFunc) args.toList K D.A8;rw[Array.toArray_toList]at w;refine Calls.mono w ?_;rintro e W' ⟨v,rfl,aC,af,ae,aD,⟨rfl,rfl⟩,M,i⟩;have E:=oj M;subst E;have z:Below W.heap.size W W':=⟨i.os,i.tape,i.output,i.size,λab Z=>i.frame ab Z (by simp[hY,m6,U.ids])⟩;have F:a.length=fn.params.size:=by
    have av:∀(k:cr) (m:cR) (a:List (DataW eo)) (p:List MemPlace),DataW.TrodAll enc P W 0 (λ_=>true) true k m a p->a.length=k.length:=by
      intro k;induction k with
      |nil=>intro m a p d;cases m<;>cases a<;>first|rfl|exact d.elim
      |cons t k I=>
        intro m a p d;cases m<;>cases a<;>first|exact d.elim|skip
        obtain⟨_,_,_,C,_⟩:=d;simp[I _ _ _ C]
    grind
  obtain⟨ar,au,G⟩:=R a F;have J:∀h∈g,h.block<W.heap.size:=λh n=>by simpa using o.lt h n
  have an:∀(A:Nat) (b:Nat->Bool) (c:Bool),DataW.TrodAll enc P W' A b c fn.resultTypes.toList ((Value.bool true).resultList fn.resultTypes.size) [DataW.lit (.bool true)] []:=λA b c=>by
    rw[q];exact trodAll_mk1 (shut_bool r true)
  have ai:∀b:Nat->Bool,(∀h∈g,b h.block=true)->DataW.TrodAll enc P W' 0 b true fn.params.toList args.toList a g:=λb Q=>CB V z T N J Q;have ah:=ok_one (P:=P) (W':=W') q rfl (okWide_bool_mk r true);have ak:∀b:Nat->Bool,DataW.TrodVars enc P W' b s.vars (s.fn eo a).vars []:=λb=>by rw[y,G];rfl
  refine⟨_,rfl,a,[],g,[],g,[],by simpa using o,?_,?_,?_,World.keptBut_mono (λh n=>⟨n,.inr (.inl n)⟩) (z.frame (·∈g)),λd=>by cases d⟩
  · grind
  · grind
  · grind
def K8{s:ChangeSpec}{i:β->List H}{l:β->Prop}(z:laidOutB P=true)(n:fn.resultTypes=#[qh])(o:P.underlying qh=some .bool)(u:s.vars=[])
  (y:∀t∈fn.params.toList,P.readableRec t=true/\t<P.types.size) (q:s0 P fn.params.toList i l) (x:∀b,l b->bB P f [] (i b) (.bool true))
  (w:∀a:List (DataW eo),a.length=fn.params.size->(s.fn eo a).results=[.lit (.bool true)]/\(s.fn eo a).args=a/\(s.fn eo a).vars=[])
  (W:World) (c:Nat) (args:fz) (a k:List (DataW eo)) (h:List MemPlace) (g:∀(j:Nat) t v,fn.params[j]?=some t->args[j]?=some v->Value.okWide P W .any c t v)
  (d:DataW.Whole enc P fn.params.toList s.vars false W args.toList a k h) :
  Calls P f args W λe W'=>∃v,e=.returned v/\s.post enc P fn false true false false W args v W':=by
 refine KX z n o u y ?_ w c a k h g d;obtain⟨C,D,r,_⟩:=d;obtain⟨b,B,m⟩:=q.read eo enc W c args.toList a C (λj t v A p=>g j t v (by simpa using A) (by simpa using p)) r;exact⟨_,m,x b B⟩
end
section
set_option linter.all false
open Go
variable {P:Program}{bm:eb}
def BO(op:Op)(env:ag):Option (b8×b7):=match op with
 |.makeFunc (.func f) first aM=>match first.toList with
  |[x]=>(match aM.toList with
   |[]=>(match env.cc x with
    |some (.ptr d 0)=>some (.y [] (.cz (.fW f) d),([],[]))
    |_=>none)
   |_=>none)
  |_=>none
 |_=>none
variable {N:Nat}{TK:b7}{env:ag}{o:Oper}{σ:U}
def NK{ids:cr}{s:b8}(h:BO o.op env=some (s,TK)):dL ⟨P,N,ids⟩ o env σ s:=by
 unfold BO at h;split at h
 .rename_i f first aM c;split at h
  .rename_i b d;split at h
   .rename_i k;split at h
    .rename_i v i;cases h;have m:first=#[b]:=by simpa using congrArg List.toArray d
     have n:aM=#[]:=by simpa using congrArg List.toArray k
     subst m n;refine Yields.pure λr u p x w e t q g=>?_;have a:=g b (by simp[c,Op.operands]);rw[atu i]at a
     simp only[au,iD.rep]at a;obtain⟨l,a,j⟩:=a;exact⟨.func (.func f) #[e b] #[],by simp[execOp,c,Instr.makeFunc],by simp only[au,iD.rep];exact⟨l,a,by rw[j]⟩⟩
    .cases h
   .cases h
  .cases h
 .cases h
def Bz:Hint P:=.gs false ([],[]) (λ_ b env _=>BO b env) λ_ _ _ _ _ _ _ a _=>NK a
def Bd(bm:eb)(op:Op)(env:ag):Option (b8×b7):=match op with
 |.call ⟨.builtin .len,args,b⟩=>match args.toList with
  |[x]=>(match b.toList with
   |[a]=>(match bm.get a with
    |some ⟨_,_,_,.slice _ _ _ _⟩=>(match env.cc x with
     |some (.cz (.jD c) _)=>some (.y [] (.int .i64 (c:Int)),([],[]))
     |_=>none)
    |_=>none)
   |_=>none)
  |_=>none
 |_=>none
def Mj(W:fe P bm){ids:cr}{s:b8}(h:Bd bm o.op env=some (s,TK)):dL ⟨P,N,ids⟩ o env σ s:=by
 unfold Bd at h;split at h
 .rename_i args t f;split at h
  .rename_i e j;split at h
   .rename_i i r;split at h
    .rename_i n;have g:=(e9.get W.tys n).kd;simp only[gU]at g;split at h
     .rename_i d z m;cases h;have b:args=#[e]:=by simpa using congrArg List.toArray j
      have q:t=#[i]:=by simpa using congrArg List.toArray r
      subst b q;refine Yields.pure λw y u B A k x v l=>?_;have c:=l e (by simp[f,Op.operands,Call.operands]);rw[atu m]at c
      simp only[au,iD.rep]at c;obtain⟨p,_,a⟩:=c;have a:k e=.slice (some ⟨p,0,none⟩) d d:=a;have b:=run_underlying (P:=P) g.1.en;exact⟨.int .i64 d,by simp[execOp,f,resolve,invoke,builtin,Builtin.len_,a,b,goInt],by simp[au,aS]⟩
     .cases h
    .cases h
   .cases h
  .cases h
 .cases h
def RU(W:fe P bm):Hint P:=.gs false ([],[]) (λ_ b env _=>Bd bm b env) λ_ _ _ _ _ _ _ a _=>Mj W a
def BG(bm:eb)(op:Op)(env:ag):Option (b8×b7):=match op with
 |.indexAddr a x y=>match bm.get a with
  |some ⟨_,_,_,.slice _ b _ _⟩=>(match env.cc x with
   |some (.cz (.jD n) d)=>(match env.cc y with
    |some (.int _ i)=>bif decide (0<=i)&&decide (i<n)then some (.y [] (.ptr d (i.toNat*b)),([],[]))else none
    |_=>none)
   |_=>none)
  |_=>none
 |_=>none
def NL(W:fe P bm){ids:cr}{s:b8}(h:BG bm o.op env=some (s,TK)):dL ⟨P,N,ids⟩ o env σ s:=by
 unfold BG at h;split at h
 .rename_i y l w c;split at h
  .rename_i C E G D u F H t;have d:=(e9.get W.tys t).kd;simp only[gU]at d;split at h
   .rename_i k J n;split at h
    .rename_i K j p;generalize i:(decide (0<=j)&&_)=r at h;cases r with
     |false=>cases h
     |true=>
      simp only[Bool.and_eq_true,decide_eq_true_eq]at i;cases h;refine Yields.pure λA I x M L m B z g=>?_;have f:=g l (by simp[c,Op.operands]);rw[atu n]at f
      have a:=g w (by simp[c,Op.operands]);rw[atu p]at a;have a:=fB a
      simp only[au,iD.rep]at f;obtain⟨e,q,b⟩:=f;have b:m l=.slice (some ⟨e,0,none⟩) k k:=b;have v:=run_underlying (P:=P) d.1.en;exact⟨.pointer (some ⟨e,j.toNat*u,none⟩),by simp[execOp,c,a,b,Instr.indexAt,asIntOf,v,i,d.1.size,g5],by simp only[au];exact⟨e,q,rfl⟩⟩
    .cases h
   .cases h
  .cases h
 .cases h
def Be(W:fe P bm):Hint P:=.gs false ([],[]) (λ_ b env _=>BG bm b env) λ_ _ _ _ _ _ _ a _=>NL W a
variable {G:bG}
def auW{ev:Operand->H}{T E sz len d:Nat}{parts:Array (Nat×Operand)}{U:cR}{xs:List (List H)}(h:o.op=.buildSlice T len parts)(q:o2 G.P T E sz U)(v:parts.size=len)(V:len*sz<=65536/\len<=65536)
  (z:l8 sz 0 (parts.toList.map λp=>(p.1,ev p.2))=some xs) (W:i6 (Nat.beq d) xs.flatten=false) (hi:G.ids.contains d=false):Yields G o ev ((d,.cells E xs.flatten)::σ) [d] [d] (.cz (.jD len) d):=by
 intro X af I β b g C n R A;have Q:∀p∈parts.toList,au I β (ev p.2) (g p.2):=λp B=>A p.2 (by simp only[h,Op.operands];simpa using ⟨p.1,by simpa using B⟩);obtain⟨m,K,Z⟩:=q.zero b
 let a:fz:=(Array.range (len*sz)).map ((if len*sz=0 then #[]else m.cells)[·%(if len*sz=0 then #[]else m.cells:fz).size]!)
 have u:a.size=len*sz:=by simp[a]
 obtain⟨l,x,D,Y,J,M,ae,ab⟩:=yz (I:=I) (β:=β) sz (parts.toList.map λp=>(p.1,ev p.2)) (parts.toList.map λp=>(p.1,g p.2)) 0 a xs
  ⟨by simp,λS p ah c i=>by
   simp only[List.getElem?_map]at c i;cases e:parts.toList[S]? with
   |none=>rw[e]at c;cases c
   |some y=>
    rw[e]at c i;simp only[Option.map_some,Option.some.injEq]at c i;subst c i;exact⟨rfl,Q y (List.mem_of_getElem? e)⟩⟩ z (by simp[u,v])
 have N:l.toList=x:=by
  rw[J];have L:a.toList.drop ((0+(parts.toList.map λp=>(p.1,ev p.2)).length)*sz)=[]:=List.drop_of_length_le (by simp[u,v]);rw[L];simp
 have F:(execOp g o).run G.P b=.ok (.value (.slice (some ⟨b.heap.size,0,none⟩) len len)) (b.alloc (.cells l E)):=by
  have O:¬(len*sz>2 ^ 24):=by have:(2:Nat) ^ 24=16777216:=by decide
                              omega
  have f:Instr.fill (λs=>some (s*sz,sz)) a (parts.map λ(s,w)=>(s,g w)).toList=some l:=by simpa using D
  simp only[execOp,h,Instr.buildSlice,Sem.run_bind,run_underlying q.en,q.size,Result.andThen_ok,O,if_false];by_cases k:len*sz=0
  .have r:a=(Array.range (len*sz)).map ((#[]:fz)[·%(#[]:fz).size]!):=by simp only[a,k,if_true]
   rw[r]at f;simp only[k,if_true,Sem.run_bind,Sem.run_pure,Result.andThen_ok]at f ⊢;simp only[f];simp[newRow]
  .have r:a=(Array.range (len*sz)).map (m.cells[·%m.cells.size]!):=by simp only[a,k,if_false]
   rw[r]at f;simp only[k,if_false,Sem.run_bind,K,Sem.run_pure,Result.andThen_ok];simp only[f];simp[newRow]
 rw[F];have t:=R d (by simp);refine⟨I,e4 β d (.pointer (some ⟨b.heap.size,0,none⟩)),by simp only[au,iD.rep];exact⟨b.heap.size,by rw[eH];rfl,rfl⟩,?_,bQ.refl I,λw e=>e0 β _ (λP=>e (by simp[P]))⟩;refine n.real (by simpa using hi) t rfl λTK j=>?_;rw[C d (by simp),atw,if_pos rfl]at j;injection j with j
 subst j;simp only[bc,eH];refine .inr ⟨b.heap.size,l,rfl,heap_alloc_new b _,?_,λo=>n.gu (Nat.le_refl _) o,.inl n.size⟩;rw[N];exact Dj (bQ.refl I) (at7 t) _ _ M
def Br(bm:eb)(d:Nat)(ids:cr)(op:Op)(env:ag):Option (b8×b7):=match op with
 |.buildSlice b len parts=>match bm.get b with
  |some ⟨_,_,_,.slice E a _ _⟩=>bif Nat.beq parts.size len&&(Nat.ble (len*a) 65536&&Nat.ble len 65536)&&!ids.contains d then(match env.lz parts.toList with
   |none=>none
   |some c=>match m7 a 0 c with
    |none=>none
    |some xs=>bif !i6 (Nat.beq d) xs.flatten then some (.v d (.cells E xs.flatten) (.cz (.jD len) d),([],[]))else none)else none
  |_=>none
 |_=>none
def NM(W:fe P bm){d:Nat}{ids:cr}{s:b8}(h:Br bm d ids o.op env=some (s,TK)):dL ⟨P,N,ids⟩ o env σ s:=by
 unfold Br at h;split at h
 .rename_i n l parts g;split at h
  .rename_i k;have e:=(e9.get W.tys k).kd;simp only[gU]at e;generalize a:(Nat.beq parts.size l&&_&&_)=j at h;cases j with
   |false=>cases h
   |true=>
    simp only[cond_true]at h;rw[Bool.and_eq_true,Bool.and_eq_true]at a;split at h
    .cases h
    .rename_i p i;split at h
     .cases h
     .rename_i m f;cases b:i6 (Nat.beq d) m.flatten with
      |true=>rw[b]at h;cases h
      |false=>
       rw[b]at h;cases h
       have c:ids.contains d=false:=by simpa using a.2
       exact⟨c,auW (G:=⟨P,N,ids⟩) g e.2.2 (by simpa using a.1.1) (by simpa using a.1.2) (by rw[at0 i];exact uP _ f) b c⟩
  .cases h
 .cases h
def RP(W:fe P bm)(d:Nat):Hint P:=.gs false ([],[]) (λids b env _=>Br bm d ids b env) λ_ _ _ _ _ _ _ a _=>NM W a
variable {b2:U}{d0:Nat}{f:FuncId}
def D.P3{ev:Operand->H}{u:Operand}{k:Array TypeId}{Post:H->U->Prop}(news:cr)(h:o.op=.call ⟨.value u,#[],k⟩)(Y:ev u=.cz (.fW f) d0)
  (ar:∀(args:fz) (w:World),(callFunc f args).run G.P w=.ok (.enter f args) w) (Q:∀p∈b2,σ.get p.1=some p.2)
  (aH:cp G.P f b2 [.ptr d0 0] Post) (ax:news.all (λd=>!G.ids.contains d&&(σ.get d).isNone)=true) (aj:(σ.minus b2.ids).clean news.contains=true)
  (an:∀r σ2,Post r σ2->r.refs (λd=>!(b2.ids++news).contains d)=false/\σ2.clean (λd=>!(b2.ids++news).contains d)=true) :
  eB G o ev σ (b2.ids++news) news (λr ah=>∃σ2,Post r σ2/\ah=σ2++σ.minus b2.ids):=by
 intro cx I β w O S ab;have q:=ab u (by simp[h,Op.operands,Call.operands]);rw[Y]at q;simp only[au,iD.rep]at q;obtain⟨b,ae,q⟩:=q;have q:O u=.func (.func f) #[.pointer (some ⟨b,0,none⟩)] #[]:=q;have ai:(execOp O o).run G.P w=.ok (.enter f #[.pointer (some ⟨b,0,none⟩)]) w:=by
  simp[execOp,h,resolve,q,Deferred.ofValue,invoke,ar]
 rw[ai];have av:br I β [.ptr d0 0] [.pointer (some ⟨b,0,none⟩)]:=by
  simp only[br,au];exact⟨_,_,rfl,⟨b,ae,rfl⟩,rfl⟩
 have ak:=S.j3 (P:=G.P) Q
 have aw:∀d∈news,d∉G.ids/\σ.get d=none:=λd hd=>by
  have:=List.all_eq_true.1 ax d hd;simpa using this
 refine Calls.mono (aH _ w I β _ ak av) ?_;rintro e w' ⟨v,aD,r,σ2,Z,aE,X,aq,am⟩;obtain⟨dG,bE⟩:=an r σ2 X;obtain⟨aC,C,af⟩:=S.after Q am news aw aj bE;refine⟨v,aD,r,_,Z,_,⟨σ2,X,rfl⟩,af r v dG aq,aC,C,λd hd=>by simp[hd],λd hd=>?_⟩;have hd:d∉b2.ids/\d∉news:=by simpa using hd
 rw[atX,atE,if_neg hd.1];cases C:σ2.get d with
 |some ao=>
  have:=(atF bE d ao C).1;have:(b2.ids++news).contains d=true:=by rw[<-Bool.not_eq_false'];exact this
  exact absurd (List.mem_append.1 (List.contains_iff_mem.1 this)) (by simp[hd.1,hd.2])
 |none=>rfl
def Bu(b2:U)(news:cr)(r:H)(σ2:U)(ids:cr)(op:Op)(env:ag)(σ:U):Option (b8×b7):=match op with
 |.call c=>match c.callee with
  |.value b=>(match c.args.toList with
   |[]=>(match env.cc b with
    |some (.cz (.fW f) a)=>(match σ.at b2.ids with
     |none=>none
     |some d=>bif news.all (λa=>!ids.contains a&&(σ.get a).isNone)&&(σ.minus b2.ids).clean news.contains&&!r.refs (λa=>!(b2.ids++news).contains a)&&σ2.clean (λa=>!(b2.ids++news).contains a)then
      some (.e (b2.ids++news) news r (σ2++σ.minus b2.ids),([.fn f [],.ptr a 0],d))else none)
    |_=>none)
   |_=>none)
  |_=>none
 |_=>none
def NN{news:cr}{σ2:U}{r:H}(m:cp P f b2 [.ptr d0 0] (λa k=>a=r/\k=σ2))(w:be P f){ids:cr}{s:b8}
  (h:Bu b2 news r σ2 ids o.op env σ=some (s,TK)) (d:TK=([.fn f [],.ptr d0 0],b2)):dL ⟨P,N,ids⟩ o env σ s:=by
 unfold Bu at h;split at h
 .rename_i B j;obtain⟨C,args,Q⟩:=B;split at h
  .rename_i p z;split at h
   .rename_i x;split at h
    .rename_i L O e;split at h
     .cases h
     .rename_i M y;generalize c:(news.all _&&_&&_&&_)=v at h;cases v with
      |false=>cases h
      |true=>
       simp only[Bool.and_eq_true,Bool.not_eq_true']at c;obtain⟨⟨⟨b,l⟩,t⟩,u⟩:=c;cases h;simp only[Prod.mk.injEq,List.cons.injEq,H.fn.injEq,H.ptr.injEq,and_true]at d;obtain⟨⟨rfl,rfl⟩,rfl⟩:=d;have F:args=#[]:=by simpa using congrArg List.toArray x
       have I:C=.value p:=z;subst F I;refine⟨?_,by rw[List.all_eq_true]at b ⊢;exact λE K=>((Bool.and_eq_true _ _).mp (b E K)).1⟩;have q:=D.P3 (G:=⟨P,N,ids⟩) (σ:=σ) news j (atu e) w.h (atP y).1.mem m b l (λR A n=>by obtain⟨rfl,rfl⟩:=n;exact⟨t,u⟩);exact q.mono λa s ⟨A,⟨J,g⟩,i⟩=>⟨J,by rw[i,g]⟩
    .cases h
   .cases h
  .cases h
 .cases h
def By(news:cr){f:FuncId}{d0:Nat}{b2:U}{r:H}{σ2:U}(c:cp P f b2 [.ptr d0 0] (λa b=>a=r/\b=σ2))(d:be P f):Hint P:=
 .gs true ([.fn f [],.ptr d0 0],b2) (Bu b2 news r σ2) λ_ _ _ _ _ _ _ e g=>NN c d e g
def ot(G:bG)(c:Code)(Q:Exit->ag->U->Prop):Nat->ag->U->Prop
 |0,_,_=>False
 |n+1,env,σ=>aq G c (kE (ot G c Q n) Q) env σ
variable {Q:Exit->ag->U->Prop}
def aug{c:Code}{n:Nat}(h:aq G c (kE (ot G c Q n) Q) env σ):ot G c Q (n+1) env σ:=h
def A.NO{c:Code}(n:Nat)(h:ot G c Q n env σ):aq G (.loop c) Q env σ:=by
 refine atQ λcx a w S=>?_;refine wp_loop_rounds n ?_
 have key:∀n env σ a w,ot G c Q n env σ->iS G cx env σ a w->Code.rounds G.P c (λe X w'=>∃u q,iS G cx u q X w'/\Q e u q) n a w:=by
  intro n;induction n with
  |zero=>intro env σ a w h _;exact h.elim
  |succ n Y=>
   intro env σ a w h S;rw[rounds_succ];refine wp_mono (aq.use h cx a w S) ?_;rintro e X w' ⟨u,q,O,C⟩;cases e with
   |normal=>exact Y _ _ _ _ C O
   |exit id=>exact⟨u,q,O,C⟩
   |goto l=>exact⟨u,q,O,C⟩
   |ret=>exact⟨u,q,O,C⟩
   |panic Z=>exact⟨u,q,O,C⟩
   |outgrown=>exact⟨u,q,O,C⟩
 exact key n env σ a w h S
end
section
set_option linter.all false
open Go Go.Sort Go.Lib Go.Shelf Go.RowKit
theorem Mk{w w':World}(e:∀b,b<w.heap.size->w'.heap[b]?=w.heap[b]?)(f:w.heap.size<=w'.heap.size)(a:w'.tape=w.tape)(c:w'.os=w.os)(d:w'.output=w.output)(h:w.drawn<=w'.drawn):
  ∃q g,w'=grow (w.drewN q) g:=by
 refine⟨w'.drawn-w.drawn,w'.heap.extract w.heap.size w'.heap.size,?_⟩;obtain⟨n,t1,d1,j,k⟩:=w';obtain⟨m,p,l,o,i⟩:=w;simp only at e f a c d h ⊢;subst a c d;simp only[grow,World.drewN];congr 1
 .grind
 .omega
variable {α:Type}
def vO(l:List (α->Int)):SWO (ltOf (dQ l)) where
 irrefl:=λa=>by simpa [ltOf]using CJ l a
 trans:=λa d e c b=>by simp only[ltOf,decide_eq_true_eq]at *;exact oa l a d e c b
 ntrans:=λa d e c b=>by simp only[ltOf,decide_eq_false_iff_not]at *;exact CK l a d e c b
variable {P:Program}{UX:α->α->Int}{Vw:α->cR}{enc:α->List H}{k:Nat}
def yL{g:FuncId}[Inhabited α](d:∀(I:aZ) (β:Nat->Value) x,br I β (enc x) (Vw x))
    (aH:∀x y,bB P g [] [.agg (enc x),.agg (enc y)] (.int .i64 (UX x y))) (bK off size:Nat) (w:World):CmpLays P g #[] Vw k UX bK off size w:=λo os l q x y=>by
  generalize sortWorldK Vw k w bK off o l os=b
  have h:bx ⟨P,0,[]⟩ (hY (eA b) (λ_=>.nilFunc) [] b) (eA b) (λ_=>.nilFunc) [] b:=
    {good:=r0,er:=rW,e8:=bQ.refl _,eW:=λ_ _ _ _=>rfl,frame:=λ_ _ _=>rfl,size:=Nat.le_refl _,tape:=rfl,os:=rfl,output:=rfl,drawn:=Nat.le_refl _,
     bO:=λe u c=>by simp[U.get]at c,cq:=λe s c=>by simp[U.get]at c,keep:=λe c=>by simp at c}
  have j:=aH x y _ b _ (λ_=>.nilFunc) [.agg (Vw x).toArray,.agg (Vw y).toArray] h (by
    simp only[br,au];exact⟨_,_,rfl,⟨_,rfl,d _ _ x⟩,_,_,rfl,⟨_,rfl,d _ _ y⟩,rfl⟩)
  refine Calls.mono j ?_;rintro t A ⟨z,rfl,v,r,p,B,⟨rfl,rfl⟩,i,a⟩;have m:=fB i;subst m;exact⟨rfl,Mk (λn f=>a.frame n f (by simp[hY,m6,U.ids])) a.size a.tape a.os a.output a.drawn⟩
def CP{k:Nat}(b:0<k):∀(L:List (List Value)),(∀x∈L,x.length=k)->∀t,L.flatten[t]?=(L[t / k]?).bind λx=>x[t%k]?
 |[],_,t=>by simp
 |x::r,h,t=>by
  have c:=h x (by simp);rw[List.flatten_cons];by_cases a:t<k
  .rw[List.getElem?_append_left (by omega),Nat.div_eq_of_lt a,Nat.mod_eq_of_lt a];simp
  .rw[List.getElem?_append_right (by omega),CP b r (λg d=>h g (by simp[d])),c];have e:t / k=(t-k) / k+1:=by rw[Nat.div_eq_sub_div b (by omega)]
   have f:(t-k)%k=t%k:=by rw[Nat.mod_eq_sub_mod (by omega:t>=k)]
   rw[e,f];simp
theorem C5[Inhabited α](c:0<k)(g:∀x,(Vw x).length=k)(d:Array α):(flatK Vw k d).toList=(d.toList.map Vw).flatten:=by
 apply List.ext_getElem?;intro a;rw[CP c _ (λx h=>by obtain⟨i,_,rfl⟩:=List.mem_map.1 h;exact g i),List.getElem?_map,Array.getElem?_toList,Array.getElem?_toList];by_cases b:a<d.size*k
 .have e:a / k<d.size:=(Nat.div_lt_iff_lt_mul c).2 b;have f:=get_flatK Vw k d a b;rw[Array.getElem?_eq_getElem (by simpa using b),Array.getElem?_eq_getElem e];rw[getElem!_pos (flatK Vw k d) a (by simpa using b)]at f;rw[f,getElem!_pos d _ e];have j:a%k<(Vw d[a / k]).length:=by rw[g];exact Nat.mod_lt _ c
  grind
 .have e:d.size<=a / k:=(Nat.le_div_iff_mul_le c).2 (by omega)
  simp_all
def sS(P:Program)(f g:FuncId){α:Type}[Inhabited α](Vw:α->cR)(k:Nat)(UX:α->α->Int):Prop:=∀(bK d aM:Nat) (a:Array α) (b:World),HoldsK Vw k b bK d a->bK<b.heap.size->a.size<4611686018427387904->
 Calls P f #[.slice (some ⟨bK,d,none⟩) a.size aM,.func (.func g) #[] #[]] b λe j=>e=.returned (.tuple #[])/\∃c h i,PermIn 0 a.size a c/\SortedIn (ltOf UX) 0 a.size c/\j=sortWorldK Vw k b bK d h c i
def P4(P:Program)(f:FuncId):Prop:=∀(d:Option Addr) (aM:Nat) (b:Value) (a:World),Calls P f #[.slice d 0 aM,b] a λc e=>c=.returned (.tuple #[])/\e=a
theorem JL[Inhabited α]{d c:Array α}(i:PermIn 0 d.size d c)(h:SortedIn (ltOf UX) 0 d.size c):c.toList.Perm d.toList/\c.toList.Pairwise λa b=>¬UX b a<0:=by
 obtain⟨l,_,m⟩:=i;refine⟨?_,?_⟩
 .have n:c.extract 0 d.size=c:=by rw[<-l];simp
  simp_all
 rw[List.pairwise_iff_getElem];intro f e o g j;have k:e<c.size:=by simpa using g
 have:=h f e (Nat.zero_le _) j (by omega);rw[getElem!_pos c e k,getElem!_pos c f (by omega)]at this;simpa [ltOf]using this
def yN{I:aZ}{α:Type}{enc:α->List H}{Vw:α->cR}(a:∀x vs,bJ I (enc x) vs↔vs=Vw x):∀(b:List α) (vs:cR),bJ I (b.map enc).flatten vs↔vs=(b.map Vw).flatten
 |[],vs=>by simp[bJ]
 |z::r,vs=>by
  simp only[List.map_cons,List.flatten_cons];rw[gy];constructor
  .rintro⟨c,f,rfl,e,d⟩;rw[(a z c).1 e,(yN a r f).1 d]
  .rintro rfl;exact⟨_,_,rfl,(a z _).2 rfl,(yN a r _).2 rfl⟩
theorem yW{f g:FuncId}[Inhabited α](q:∀(I:aZ) x vs,bJ I (enc x) vs↔vs=Vw x)(A:0<k)(V:∀x,(Vw x).length=k)(ao:∀x,(enc x).length=k)
  (W:∀a b c,UX a b<0->UX b c<0->UX a c<0) (Y:sS P f g Vw k UX) (ax:P4 P f) {d T:Nat} {e ys:List α} (h:hK UX e=some ys) :
  cp P f [(d,.slice T k (e.map enc) 0 false)] [.own d,.fn g []] (λr Z=>r=.bP []/\Z=[(d,.slice T k (ys.map enc) 0 false)]):=by
 intro ba o I L vs t j;obtain⟨E,am,aT⟩:=JW W h;simp only[br]at j;obtain⟨aW,aV,rfl,j,a6,a8,rfl,w,rfl⟩:=j;simp only[au,br]at w;obtain⟨aE,rfl,w⟩:=w;have aH:aE=#[]:=by apply Array.ext';simpa using w
 subst aH;have aJ:U.get [(d,bY.slice T k (e.map enc) 0 false)] d=some (.slice T k (e.map enc) 0 false):=by rw[atw,if_pos rfl]
 have N:=t.bO d _ aJ;simp only[au]at j;obtain⟨rfl,j⟩:=j;simp only[bc,List.length_map]at N;rcases N with K|⟨K,C,_⟩|⟨b,aM,l,B,C,X,p,Q,ab,a0,a4,a1,R,S⟩
 .rw[K]at j;simp[fl]at j
 .have aj:e=[]:=by simpa using C
  subst aj;have aG:ys=[]:=E.eq_nil;subst aG;rw[K];refine Calls.mono (ax none 0 _ o) ?_;rintro z aU ⟨rfl,rfl⟩;exact⟨.tuple #[],rfl,.bP [],_,I,L,⟨rfl,rfl⟩,by simp only[au,br];exact⟨_,rfl,rfl⟩,t⟩
 .have af:l.toList.take (e.length*k)=(e.map Vw).flatten:=(yN (q I) e _).1 ab;have ak:l.size=aM*k:=Q;have a5:e.length*k<=l.size:=by rw[ak];exact Nat.mul_le_mul_right k C
  have aq:(flatK Vw k e.toArray).toList=(e.map Vw).flatten:=by rw[C5 A V]
  have a7:∀i,i<e.length*k->l[i]?=some ((flatK Vw k e.toArray)[i]!):=λi m=>by
   have aI:(flatK Vw k e.toArray)[i]?=l[i]?:=by
    rw[<-Array.getElem?_toList,<-Array.getElem?_toList,aq,<-af,List.getElem?_take,if_pos m]
   have M:i<(flatK Vw k e.toArray).size:=by simpa using m
   rw[<-aI,getElem!_pos _ i M,Array.getElem?_eq_getElem M]
  have ah:HoldsK Vw k o b 0 e.toArray:=λi m=>by
   have m:i<e.length*k:=by simpa using m
   constructor
   .simp only[World.cell?,p,Nat.zero_add]
    grind
   .simp[World.frozen?,p]
  have v:=fv p;have ae:=Y b 0 aM e.toArray o ah v (by simpa using aT);rw[B];refine Calls.mono ae ?_;rintro z aU ⟨rfl,y,G,J,aD,iY,rfl⟩;obtain⟨aC,an⟩:=JL aD iY;have O:y.toList=ys:=CI (aC.trans E.symm) am an;have F:ys.length=e.length:=E.length_eq;have ai:y.size=e.length:=by rw[<-F,<-O];simp
  generalize D:flatK Vw k y=n;have aw:n.toList=(ys.map Vw).flatten:=by rw[<-D,C5 A V,O]
  have a9:n.size=e.length*k:=by rw[<-D,size_flatK,ai]
  have aF:sortWorldK Vw k o b 0 G y J=grow (putRow id (Go.Sort.ahead o G) b 0 n) J:=by rw[<-D];rfl
  rw[aF];have ar:(grow (putRow id (Go.Sort.ahead o G) b 0 n) J).heap[b]?=some (.cells (putCells id 0 n l) T (0,0)):=by
   simp only[grow,putRow,mapBlock,Go.Sort.ahead];rw[Array.getElem?_append_left (by simpa using v),Array.getElem?_modify,if_pos rfl,p];rfl
  have av:(putCells id 0 n l).toList.take (ys.length*k)=(ys.map Vw).flatten:=by
   rw[<-aw];apply List.ext_getElem?;intro i;rw[List.getElem?_take];split
   .rename_i m;rw[F]at m;have a3:i<l.size:=by omega
    rw[Array.getElem?_toList,Array.getElem?_toList];simp only[putCells,Array.getElem?_mapIdx]
    grind
   .grind
  refine⟨.tuple #[],rfl,.bP [],_,I,L,⟨rfl,rfl⟩,by simp only[au,br];exact⟨_,rfl,rfl⟩,?_⟩;refine bx.turn (b:=b) (d:=d) t ⟨λk A v=>?_,by simp[grow,putRow,mapBlock,Go.Sort.ahead],rfl,rfl,rfl,by simp[grow,putRow,mapBlock,Go.Sort.ahead]⟩ S (λx s=>?_) (λx s h _=>?_) (bQ.refl I) (λ_ _ _=>rfl) (λH bb q=>?_) (t.k3 p) (λ_ _=>rfl) (.inr rfl) (eC.refl L) (.inl (by rw[B];rfl)) (λaX u=>?_)
  .simp only[grow,putRow,mapBlock,Go.Sort.ahead];rw[Array.getElem?_append_left (by simpa using v),Array.getElem?_modify,if_neg (λz=>A z.symm)]
  .rw[atw,atw,if_neg (Ne.symm s),if_neg (Ne.symm s)]
  .rw[atw,if_neg (Ne.symm s)]at h;simp[U.get]at h
  .rw[R H (by omega)]at q;cases q
  .rw[atw,if_pos rfl]at u;injection u with u
   subst u;simp only[bc,List.length_map];refine .inr (.inr ⟨b,aM,_,by rw[B,F],by omega,X,ar,by simpa [putCells]using Q,?_,?_,by omega,?_,?_,S⟩)
   .exact(yN (q I) _ _).2 av
   .intro z aQ;obtain⟨x,_,rfl⟩:=List.mem_map.1 aQ;exact ao x
   .intro h;cases h
   .intro H _;exact R H (by omega)
end
section
set_option linter.all false
open Go Go.Lib Go.RowKit
variable {P:Program}
def yn(w:World)(gz q z e:TypeId)(g o d r:Nat)(a:Addr)(c p sz n:Nat)(b:fz)(t:TypeId)(cs:cR)
  (y:P.underlying gz=some (.slice e)) (i:∀w,(Go.sizeOf e).run P w=.ok sz w) (h:w.heap[g]?=some (.cells b t (0,0))) (x:Nat.min c d=n) (s:cs.length=n*sz)
  (m:∀j v,cs[j]?=some v->w.cell? (a.add j)=some v) (l:o+cs.length<=b.size) (u:∀v∈cs,v.oneCell'=true) :
  (Builtin.copy_ #[gz,q] z #[.slice (some ⟨g,o,none⟩) d r,.slice (some a) c p]).run P w =
   .ok (goInt n) (w.setRow g (b.toList.take o++cs++b.toList.drop (o+cs.length)).toArray):=by
 have f:=run_loadCells_list (P:=P) w a cs m;have k:=run_storeCells_at P g o t cs 0 b w h (by simpa using l) u;rw[s]at f;subst x;simp[Builtin.copy_,run_underlying y,Builtin.lenOf,Builtin.firstCells,i,f,k]
def iN(w:World)(b m W8 sz:Nat)(cells:cR)(e:Ending)(w':World):Prop:=∃c a f,e=.returned (.slice (some ⟨c,0,none⟩) m a)/\m<=a/\a<=maxLen/\w'.heap[c]?=some (.cells f W8 (0,0))/\f.size=a*sz/\f.toList.take (m*sz)=cells/\
 (c=b\/w.heap.size<=c)/\(∀d,d≠b->d<w.heap.size->w'.heap[d]?=w.heap[d]?)/\w.heap.size<=w'.heap.size/\w'.tape=w.tape/\w'.os=w.os/\w'.output=w.output/\w.drawn<=w'.drawn
variable {m p:Nat}
def Kv{arr cs row:cR}(a:arr.take m=cs)(d:p<=m)(g:m+row.length<=arr.length)(f:p+row.length<=m+row.length):
  (((arr.take (p+row.length)++cs.drop p++arr.drop (p+row.length+(cs.drop p).length)).take p++row++(arr.take (p+row.length)++cs.drop p++arr.drop (p+row.length+(cs.drop p).length)).drop (p+row.length))).take (m+row.length)=cs.take p++row++cs.drop p:=by
 have e:cs.length=m:=by rw[<-a,List.length_take];omega
 have c:(arr.take (p+row.length)++cs.drop p++arr.drop (p+row.length+(cs.drop p).length)).take p=cs.take p:=by
  rw[List.append_assoc,List.take_append_of_le_length (by rw[List.length_take];omega),List.take_take,<-a,List.take_take];congr 1;omega
 have b:(arr.take (p+row.length)++cs.drop p++arr.drop (p+row.length+(cs.drop p).length)).drop (p+row.length)=cs.drop p++arr.drop (p+row.length+(cs.drop p).length):=by
  rw[List.append_assoc,List.drop_left' (by rw[List.length_take];omega)]
 rw[c,b,<-List.append_assoc,List.take_append_of_le_length (by simp;omega),List.take_of_length_le (by simp;omega)]
def Kj{iA cs row:cR}(b:iA.take p=cs.take p)(d:cs.length=m)(c:p<=m)(e:m+row.length<=iA.length):
  ((iA.take p++row++iA.drop (p+row.length)).take (p+row.length)++cs.drop p++(iA.take p++row++iA.drop (p+row.length)).drop (p+row.length+(cs.drop p).length)).take (m+row.length)=cs.take p++row++cs.drop p:=by
 have a:(iA.take p++row).length=p+row.length:=by simp;omega
 rw[List.take_left' a,b,List.take_append_of_le_length (by simp;omega),List.take_of_length_le (by simp;omega)]
variable {W8 b sz:Nat}{cells:cR}{w w':World}
def zk{c:Nat}{arr:fz}(o:m<=c)(j:c<=maxLen)(f:arr.size=c*sz)(a:arr.toList.take (m*sz)=cells)(i:w'.heap[w.heap.size]?=some (.cells arr W8 (0,0)))
  (h:∀k,k<w.heap.size->w'.heap[k]?=w.heap[k]?) (p:w.heap.size<=w'.heap.size) (l:w'.tape=w.tape) (e:w'.os=w.os) (g:w'.output=w.output) (d:w.drawn<=w'.drawn) :
  iN w b m W8 sz cells (.returned (.slice (some ⟨w.heap.size,0,none⟩) m c)) w':=
 ⟨w.heap.size,c,arr,rfl,o,j,i,f,a,.inr (Nat.le_refl _),λk _ n=>h k n,p,l,e,g,d⟩
def yd(a:fz)(k:Nat):(Builtin.zeroCells a k).size=k*a.size:=by
 unfold Builtin.zeroCells;induction k with
 |zero=>simp
 |succ k b=>simp[Nat.succ_mul]
def vb(w:World)(o:Obj):(w.drew.alloc o).heap[w.heap.size]?=some o:=by
 show(w.heap.push o)[w.heap.size]?=_;simp
def uU(w:World)(o:Obj)(k:Nat)(a:k<w.heap.size):(w.drew.alloc o).heap[k]?=w.heap[k]?:=by
 show(w.heap.push o)[k]?=_;rw[Array.getElem?_push,if_neg (by omega)]
def Fp(P:Program)(f W8 sz bytes:Nat):Prop:=
 (∀(b d g i c j:Nat) (l e:fz) (k:TypeId) (h a:cR) (w:World),i<=d->d<=g->g<=maxLen->c≠b->(d+1)*bytes<=140737488355328->
  w.heap[b]?=some (.cells l W8 (0,0))->l.size=g*sz->l.toList.take (d*sz)=h->w.heap[c]?=some (.cells e k (0,0))->e.toList.take sz=a->a.length=sz->(∀m∈h,m.oneCell'=true)->(∀m∈a,m.oneCell'=true)->
  Calls P f #[.slice (some ⟨b,0,none⟩) d g,.int .i64 i,.slice (some ⟨c,0,none⟩) 1 j] w (iN w b (d+1) W8 sz (h.take (i*sz)++a++h.drop (i*sz))))/\
 ∀(c j b:Nat) (e:fz) (k:TypeId) (a:cR) (w:World),w.heap[c]?=some (.cells e k (0,0))->e.toList.take sz=a->a.length=sz->
  Calls P f #[.slice none 0 0,.int .i64 (0:Nat),.slice (some ⟨c,0,none⟩) 1 j] w (iN w b 1 W8 sz a)
def bx.row{ids:cr}{cx:c0}{I:aZ}{β:Nat->Value}{σ:U}{D:Nat}{e:Ending}{ys:List (List H)}(q:bx ⟨P,0,ids⟩ cx I β σ w)(O:b=w.heap.size\/(Place cx b/\∀o,I b o=none))(an:D∉ids)
    (aj:iN w b m W8 sz cells e w') (ah:ys.length=m) (Tp:∀r∈ys,r.length=sz) (ai:bJ I ys.flatten cells) :
    ∃v,e=.returned v/\∃β',au I β' (.own D) v/\bx ⟨P,0,ids⟩ cx I β' [(D,.slice W8 sz ys 0 false)] w':=by
  obtain⟨Y,Ts,afl,rfl,aE,UB,VA,XP,aq,S,ae,aC,aD,av,aw,ax⟩:=aj
  have ab:∀o,I b o=none:=λo=>by
    rcases O with rfl|O
    · exact q.gu (Nat.le_refl _) o
    · exact O.2 o
  have ar:∀o,I Y o=none:=λo=>by
    rcases S with rfl|S
    · exact ab o
    · exact q.gu S o
  have ao:Place cx Y:=by
    rcases S with rfl|S
    · rcases O with rfl|O
      · exact .inl q.size
      · exact O.1
    · exact .inl (Nat.le_trans q.size S)
  refine⟨_,rfl,λx=>if x=D then .slice (some ⟨Y,0,none⟩) m Ts else β x,by simp[au,fl],?_⟩
  exact{good:=λu o v C=>by
            have af:=q.good u o v C;have Q:u≠b:=λe=>by subst e;rw[ab o]at C;cases C
            have ak:u<w.heap.size:=Classical.byContradiction λh=>by rw[q.gu (by omega)]at C;cases C
            simp only[World.cell?]at af ⊢;rw[ae u Q ak];exact af
        er:=λu v C=>by
            obtain⟨es,clock,h1,X⟩:=q.er u v C;have Q:u≠b:=λe=>by subst e;rw[ab none]at C;cases C
            exact⟨es,clock,by rw[ae u Q (fv h1)];exact h1,X⟩
        e8:=q.e8
        eW:=q.eW
        frame:=λu h1 X=>by
            have Q:u≠b:=λe=>by
              subst e;rcases O with h|⟨h,_⟩
              · have:=q.size;omega
              · rcases h with h|h
                · omega
                · exact X h
            rw[ae u Q (Nat.lt_of_lt_of_le h1 q.size)];exact q.frame u h1 X
        size:=Nat.le_trans q.size aC
        tape:=aD.trans q.tape
        os:=av.trans q.os
        output:=aw.trans q.output
        drawn:=Nat.le_trans q.drawn ax
        bO:=λx o h=>by
            rw[atw]at h;split at h
            · rename_i e;subst e;injection h with h;subst h
              simp only[bc,if_true];exact .inr (.inr ⟨Y,Ts,afl,by rw[ah],by omega,UB,VA,XP,by rw[ah,aq];exact ai,Tp,by omega,λh=>(by cases h),λo _=>ar o,ao⟩)
            · simp[U.get]at h
        cq:=λx y Z Tp Q b O aF=>by
            rw[atw]at Z Tp;split at Z
            · rename_i e;subst e
              split at Tp
              · rename_i am;exact Q am
              · simp[U.get]at Tp
            · simp[U.get]at Z
        keep:=λd hd=>by
            have:d≠D:=λe=>by subst e;exact an hd
            simp only[if_neg this];exact q.keep d hd}
variable {f:Nat}{i:Int}{xs:List (List H)}
def Kk{bytes:Nat}(K:Fp P f W8 sz bytes)(aw:549755813888*bytes<=140737488355328){d d2 D:Nat}{row:List H}(s:∀e∈xs,e.length=sz)(z:row.length=sz)(aC:xs.flatten.all H.one=true)(ab:row.all H.one=true)
  (hi:0<=i/\i<=xs.length) (an:xs.length+1<=549755813888) (W:d2≠d) (M:D∉[d,d2]) :
  cp P f [(d,.slice W8 sz xs 0 false),(d2,.slice W8 sz [row] 0 false)] [.own d,.int .i64 i,.own d2] (λa ae=>a=.own D/\ae=[(D,.slice W8 sz (xs.take i.toNat++row::xs.drop i.toNat) 0 false)]):=by
 intro a1 w r a8 a6 h c;simp only[br]at c;obtain⟨aE,I,rfl,c,aJ,aT,rfl,A,aQ,aU,rfl,l,rfl⟩:=c;have R:U.get [(d,bY.slice W8 sz xs 0 false),(d2,.slice W8 sz [row] 0 false)] d=some (.slice W8 sz xs 0 false):=by rw[atw,if_pos rfl]
 have Q:U.get [(d,bY.slice W8 sz xs 0 false),(d2,.slice W8 sz [row] 0 false)] d2=some (.slice W8 sz [row] 0 false):=by rw[atw,if_neg (Ne.symm W),atw,if_pos rfl]
 have O:=h.bO d _ R;have N:=h.bO d2 _ Q;simp only[au]at c l;have A:=fB A;subst A;obtain⟨rfl,c⟩:=c;obtain⟨rfl,l⟩:=l;simp only[bc]at O N;rcases N with n|⟨_,j,_⟩|⟨p,V,k,q,aI,a3,Y,a4,m,aV,a0,a5,aW,aX⟩
 .rw[n]at l;simp[fl]at l
 .simp at j
 simp only[List.length_singleton,Nat.one_mul,List.flatten_cons,List.flatten_nil,List.append_nil]at q m;have T:(k.toList.take sz).length=sz:=by rw[hy _ _ m,z]
 have av:∀o∈k.toList.take sz,o.oneCell'=true:=u7 _ _ ab m;rcases O with n|⟨n,j,_⟩|⟨b,aM,B,J,j,Z,G,ah,x,aF,aH,aG,ai,aj⟩
 .rw[n]at c;simp[fl]at c
 .subst j;have ao:i=((0:Nat):Int):=by simp at hi;omega
  subst ao;rw[n,q];refine Calls.mono (K.2 p V w.heap.size k _ _ w Y rfl T) λe w' u=>?_;obtain⟨o,t,F,y,v⟩:=h.row (D:=D) (.inl rfl) M u (ys:=[row]) rfl (λE c=>by simp at c;subst c;exact z) (by simpa using m);exact⟨o,t,.own D,_,r,F,⟨rfl,by simp⟩,y,v⟩
 .have af:p≠b:=λe=>by
   have:=h.sep d2 d (by rw[Q];rfl) (by rw[R];rfl) W p (by rw[q];rfl);exact this (by rw[J,e];rfl)
  obtain⟨g,rfl⟩:∃g:Nat,i=(g:Int):=⟨i.toNat,by omega⟩;have X:g<=xs.length:=by omega
  rw[J,q];have aq:(xs.length+1)*bytes<=140737488355328:=Nat.le_trans (Nat.mul_le_mul_right _ an) aw;refine Calls.mono (K.1 b xs.length aM g p V B k _ _ _ w X j Z af aq G ah rfl Y rfl T (u7 _ _ aC x) av) λe w' u=>?_;have ar:bJ r (xs.take g++row::xs.drop g).flatten ((B.toList.take (xs.length*sz)).take (g*sz)++k.toList.take sz++(B.toList.take (xs.length*sz)).drop (g*sz)):=by
   have am:xs.flatten=(xs.take g).flatten++(xs.drop g).flatten:=by rw[<-List.flatten_append,List.take_append_drop]
   rw[am]at x;obtain⟨I,a7,ax,L,ak⟩:=(gy _ _ _).1 x;have S:I.length=g*sz:=by
    rw[hy _ _ L,l0 (xs.take g) (λe aD=>s e (List.mem_of_mem_take aD)),List.length_take,Nat.min_eq_left X]
   rw[ax,List.take_left' S,List.drop_left' S,List.flatten_append,List.flatten_cons,List.append_assoc];exact(gy _ _ _).2 ⟨_,_,rfl,L,(gy _ _ _).2 ⟨_,_,rfl,m,ak⟩⟩
  obtain⟨o,t,F,y,v⟩:=h.row (D:=D) (.inr ⟨aj,λC=>by cases C with|none=>exact h.k3 G|some C=>exact ai C (by omega)⟩) M u (ys:=xs.take g++row::xs.drop g) (by simp;omega) (λE c=>by
   rcases List.mem_append.1 c with c|c
   .exact s E (List.mem_of_mem_take c)
   .rcases List.mem_cons.1 c with rfl|c
    .exact z
    .exact s E (List.mem_of_mem_drop c)) ar
  exact⟨o,t,.own D,_,r,F,⟨rfl,by simp⟩,y,v⟩
def I2{f:ia}{o:Oper}{a:Act}{K:Act->World->Prop}{Q:Exit->Act->World->Prop}{E:Prop}
  (h:o.guard=none) (d x:Operand) (gz e:TypeId) (i:o.op=Op.call {callee:=Callee.builtin Builtin.append,args:=#[d,x],argTypes:=#[gz,e]})
  (g b:Value) (n:a.eval d=g) (j:a.eval x=b) {c:Value}  (k:(Builtin.append_ #[gz,e] o.type #[g,b]).run P w=.ok c w') (m:K (a.put o.dst c) w') :
  if Region.wanted o (yielded f a.tmps)=true then Oper.wp P o a w K Q else E:=by
 have l:Region.wanted o (yielded f a.tmps)=true:=by simp[Region.wanted,h]
 rw[if_pos l];unfold Oper.wp;simp[execOp,i,resolve,invoke,builtin,n,j,k,Result.andThen];exact m
def Ih(w:World)(t e l:TypeId)(a:Value)(g:P.underlying t=some (.slice e))(i:∀w,(zeroValue e).run P w=.ok a w)(b o n c:Nat)(d:fz)(T:TypeId)(h:w.heap[b]?=some (.cells d T (0,0)))(p:0<n)
  (j:o+(Builtin.zeroCells a.cells n).toList.length<=d.size) (k:∀v∈(Builtin.zeroCells a.cells n).toList,v.oneCell'=true) :
  (Builtin.clear_ #[t] l #[.slice (some ⟨b,o,none⟩) n c]).run P w=.ok (.tuple #[]) (w.setRow b (d.toList.take o++(Builtin.zeroCells a.cells n).toList++d.toList.drop (o+(Builtin.zeroCells a.cells n).toList.length)).toArray):=by
 have f:=run_storeCells_at P b o T (Builtin.zeroCells a.cells n).toList 0 d w h (by simpa using j) k;simp only[Nat.add_zero]at f;obtain⟨m,rfl⟩:∃m,n=m+1:=⟨n-1,by omega⟩;simp[Builtin.clear_,run_underlying g,i,f]
def CC{a:fz}(h:∀v∈a.toList,v.oneCell'=true):∀(n:Nat),∀v∈(Builtin.zeroCells a n).toList,v.oneCell'=true:=by
 intro n;unfold Builtin.zeroCells;intro v b;simp only[Array.toList_map,List.mem_map]at b;obtain⟨d,e,rfl⟩:=b;by_cases c:d%a.size<a.size
 .rw[getElem!_pos a _ c];exact h _ (by simp)
 .have:a.size=0:=by
   rcases Nat.eq_zero_or_pos a.size with h|h
   .exact h
   .exact absurd (Nat.mod_lt d h) c
  simp[this]at e
def Fq(P:Program)(f W8 sz:Nat):Prop:=
 ∀(b c d i a:Nat) (g:fz) (e:cR) (w:World),i<a->a<=c->c<=d->d<=maxLen->w.heap[b]?=some (.cells g W8 (0,0))->g.size=d*sz->g.toList.take (c*sz)=e->(∀h∈e,h.oneCell'=true)->
  Calls P f #[.slice (some ⟨b,0,none⟩) c d,.int .i64 i,.int .i64 a] w (iN w b (i+(c-a)) W8 sz (e.take (i*sz)++e.drop (a*sz)))
def Kl(I:Fq P f W8 sz){d D:Nat}{j:Int}(n:∀e∈xs,e.length=sz)(Y:xs.flatten.all H.one=true)(hi:0<=i/\i<j/\j<=xs.length)(S:D∉[d]):
  cp P f [(d,.slice W8 sz xs 0 false)] [.own d,.int .i64 i,.int .i64 j] (λa K=>a=.own D/\K=[(D,.slice W8 sz (xs.take i.toNat++xs.drop j.toNat) 0 false)]):=by
 intro aq w k aw ar o g;simp only[br]at g;obtain⟨af,v,rfl,g,ak,an,rfl,q,am,ao,rfl,r,rfl⟩:=g;have V:U.get [(d,bY.slice W8 sz xs 0 false)] d=some (.slice W8 sz xs 0 false):=by rw[atw,if_pos rfl]
 have y:=o.bO d _ V;simp only[au]at g;have q:=fB q;have r:=fB r;subst q r;obtain⟨rfl,g⟩:=g;simp only[bc]at y;rcases y with B|⟨B,l,_⟩|⟨b,aM,h,E,l,F,u,N,p,ah,aj,ai,O,Q⟩
 .rw[B]at g;simp[fl]at g
 .subst l;simp at hi;omega
 .obtain⟨c,rfl⟩:∃c:Nat,i=(c:Int):=⟨i.toNat,by omega⟩;obtain⟨m,rfl⟩:∃m:Nat,j=(m:Int):=⟨j.toNat,by omega⟩;have s:c<m:=by omega
  have A:m<=xs.length:=by omega
  rw[E];refine Calls.mono (I b xs.length aM c m h _ w s A l F u N rfl (u7 _ _ Y p)) λe w' J=>?_;have W:bJ k (xs.take c++xs.drop m).flatten ((h.toList.take (xs.length*sz)).take (c*sz)++(h.toList.take (xs.length*sz)).drop (m*sz)):=by
   have part:∀c,c<=xs.length->bJ k (xs.take c).flatten ((h.toList.take (xs.length*sz)).take (c*sz))/\bJ k (xs.drop c).flatten ((h.toList.take (xs.length*sz)).drop (c*sz)):=λc s=>by
    have T:xs.flatten=(xs.take c).flatten++(xs.drop c).flatten:=by rw[<-List.flatten_append,List.take_append_drop]
    rw[T]at p;obtain⟨v,av,X,x,R⟩:=(gy _ _ _).1 p;have z:v.length=c*sz:=by
     rw[hy _ _ x,l0 (xs.take c) (λe Z=>n e (List.mem_of_mem_take Z)),List.length_take,Nat.min_eq_left s]
    rw[X,List.take_left' z,List.drop_left' z];exact⟨x,R⟩
   rw[List.flatten_append];exact(gy _ _ _).2 ⟨_,_,rfl,(part c (by omega)).1,(part m A).2⟩
  obtain⟨ab,G,ae,M,L⟩:=o.row (D:=D) (.inr ⟨Q,λt=>by cases t with|none=>exact o.k3 u|some t=>exact O t (by omega)⟩) S J (ys:=xs.take c++xs.drop m) (by simp;omega) (λC g=>by
   rcases List.mem_append.1 g with g|g
   .exact n C (List.mem_of_mem_take g)
   .exact n C (List.mem_of_mem_drop g)) W
  exact⟨ab,G,.own D,_,k,ae,⟨rfl,by simp⟩,M,L⟩
end
section
set_option linter.all false
open Go
section
section redo
variable {G:bG}{cx:c0}{I:aZ}{β:Nat->Value}{σ:U}{w:World}
variable {M news:cr}
theorem bx.redo(h:bx G cx I β σ w){σ2:U}{c6:Nat->Value}{w':World}{b:Nat}(O:eD w w' b)(an:∀o,I b o=none)(ax:∀x,x∉M->(σ.get x).isSome->b∉cb (β x))(au:Place cx b)
    (af:∀x,x∉M->σ2.get x=σ.get x) (ai:∀x,x∉news->c6 x=β x) (aj:∀x∈news,x∈M/\x∉G.ids) (aw:∀x o,x∉M->σ.get x=some o->ih news.contains o=false)
    (aC:∀x∈M,∀o,σ2.get x=some o->bc cx I c6 w' x o)
    (am:∀x∈M,(σ2.get x).isSome->∀c∈cb (c6 x),∃y∈M,(σ.get y).isSome/\c∈cb (β y))
    (aD:∀x∈M,∀y∈M,x≠y->(σ2.get x).isSome->(σ2.get y).isSome->∀c∈cb (c6 x),c∉cb (c6 y)):bx G cx I c6 σ2 w':=by
  have ah:∀x,x∉M->c6 x=β x:=λx q=>ai x λQ=>q (aj x Q).1
  exact{
    good:=λu o v S=>by
      have h1:=h.good u o v S;have av:u<w.heap.size:=World.block_lt_of_cell? w _ h1;have Z:u≠b:=λe=>by subst e;rw[an]at S;cases S
      rw[World.cell?_of_block (w:=w) (O.block u Z av)];exact h1
    er:=λu v S=>by
      have Z:u≠b:=λe=>by subst e;rw[an]at S;cases S
      obtain⟨es,clock,h1,aq⟩:=h.er u v S;exact⟨es,clock,by rw[O.block u Z (fv h1)];exact h1,aq⟩
    e8:=h.e8
    eW:=h.eW
    frame:=λu ar Q=>by
      have:u≠b:=λe=>by
        subst e;rcases au with ao|ao
        · omega
        · exact Q ao
      rw[O.block u this (by have:=h.size;omega)];exact h.frame u ar Q
    size:=Nat.le_trans h.size O.size
    tape:=O.tape.trans h.tape
    os:=O.os.trans h.os
    output:=O.output.trans h.output
    drawn:=Nat.le_trans h.drawn O.drawn
    bO:=λx o q=>by
      by_cases C:x∈M
      · grind
      · rw[af x C]at q
        have h1:=(h.bO x o q).beta (β':=c6) (p:=news.contains) (λd hd=>ai d (by simpa using hd)) (by simpa using λQ=>C (aj x Q).1) (aw x o C q);exact h1.keep O rfl (by rw[ah x C];exact ax x C (by rw[q];rfl)) (bQ.refl I) (λ_ _ _=>rfl) (eC.refl c6)
    cq:=λx y q Y Z c ae ab=>by
      by_cases C:x∈M
      · by_cases X:y∈M
        · grind
        · obtain⟨z,Z3,aaL,ak⟩:=am x C q c ae
          rw[af y X]at Y;rw[ah y X]at ab;exact h.cq z y aaL Y (λe=>X (e▸Z3)) c ak ab
      · rw[af x C]at q
        rw[ah x C]at ae;by_cases X:y∈M
        · obtain⟨z,Z3,aaL,ak⟩:=am y X Y c ab
          exact h.cq x z q aaL (λe=>C (e▸Z3)) c ae ak
        · rw[af y X]at Y
          rw[ah y X]at ab;exact h.cq x y q Y Z c ae ab
    keep:=λx q=>by
      have:x∉news:=λQ=>(aj x Q).2 q;rw[ai x this];exact h.keep x q}
def bx.sU(h:bx G cx I β σ w){σ2:U}{c6:Nat->Value}
  (O:∀x,x∉M->σ2.get x=σ.get x) (C:∀x,x∉news->c6 x=β x) (Q:∀x∈news,x∈M/\x∉G.ids) (u:∀x o,x∉M->σ.get x=some o->ih news.contains o=false)
  (X:∀x∈M,∀o,σ2.get x=some o->bc cx I c6 w x o)
  (S:∀x∈M,(σ2.get x).isSome->∀c∈cb (c6 x),∃y∈M,(σ.get y).isSome/\c∈cb (β y))
  (Y:∀x∈M,∀y∈M,x≠y->(σ2.get x).isSome->(σ2.get y).isSome->∀c∈cb (c6 x),c∉cb (c6 y)):bx G cx I c6 σ2 w:=
 h.redo (b:=w.heap.size) ⟨λ_ _ _=>rfl,Nat.le_refl _,rfl,rfl,rfl,Nat.le_refl _⟩ (λo=>h.gu (Nat.le_refl _) o) (λx _ q e=>by
  obtain⟨o,q⟩:=Option.isSome_iff_exists.1 q;exact absurd (h.nr q e) (by omega)) (.inl h.size) O C Q u X S Y
end redo
section rows
variable {cx:c0}{I:aZ}{w:World}
def fE.length:∀{dj:List eL} {q:cR},fE cx I w dj q->q.length=dj.length
 |[],_,h=>by rw[show _=[]from h];rfl
 |x::r,_,h=>by obtain⟨O,C,rfl,_,_,u⟩:=h;simp[fE.length u]
def fE.get:∀{dj:List eL} {q:cR},fE cx I w dj q->∀{i:Nat} {x:eL},dj[i]?=some x->∃v,q[i]?=some v/\gw cx I w x v
 |[],_,_,i,x,hi=>by simp at hi
 |y::r,_,h,i,x,hi=>by
  obtain⟨u,Q,rfl,O,_,C⟩:=h;cases i with
  |zero=>simp at hi;subst hi;exact⟨u,rfl,O⟩
  |succ i=>simp at hi ⊢;exact C.get hi
def fE.ne:∀{dj:List eL} {O:cR},fE cx I w dj O->∀{i j:Nat} {u v:Value} {b:Nat},i≠j->O[i]?=some u->O[j]?=some v->bK u=some b->bK v≠some b
 |[],_,h,i,j,u,v,b,_,hi,_,_=>by rw[show _=[]from h]at hi;simp at hi
 |y::r,_,h,i,j,u,v,b,S,hi,q,hu=>by
  obtain⟨z,Y,rfl,Z,Q,X⟩:=h;cases i with
  |zero=>
   cases j with
   |zero=>exact absurd rfl S
   |succ j=>
    simp at hi q;subst hi
    intro C;exact Q b hu (List.mem_filterMap.2 ⟨v,List.mem_of_getElem? q,C⟩)
  |succ i=>
   cases j with
   |zero=>
    simp at hi q;subst q
    intro C;exact Q b C (List.mem_filterMap.2 ⟨u,List.mem_of_getElem? hi,hu⟩)
   |succ j=>simp at hi q;exact X.ne (λe=>S (by rw[e])) hi q hu
theorem fE.set:∀{dj:List eL} {Q:cR},fE cx I w dj Q->∀{i:Nat} {x:eL} {v:Value},gw cx I w x v->(∀j q b,j≠i->Q[j]?=some q->bK v=some b->bK q≠some b)->fE cx I w (dj.set i x) (Q.set i v)
 |[],_,h,i,x,v,_,_=>by rw[show _=[]from h];simp[fE]
 |y::r,_,h,i,x,v,Z,hd=>by
  obtain⟨z,Y,rfl,ae,af,ab⟩:=h;cases i with
  |zero=>
   refine⟨v,Y,rfl,Z,λb C X=>?_,ab⟩;obtain⟨q,u,S⟩:=List.mem_filterMap.1 X;obtain⟨j,O⟩:=List.getElem?_of_mem u;exact hd (j+1) q b (by simp) (by simpa using O) C S
  |succ i=>
   refine⟨z,Y.set i v,rfl,ae,λb C X=>?_,ab.set Z λj q b O u C=>hd (j+1) q b (λe=>O (by simpa using e)) (by simpa using u) C⟩;obtain⟨q,u,S⟩:=List.mem_filterMap.1 X;rcases List.mem_or_eq_of_mem_set u with u|rfl
   .grind
   .exact hd 0 z b (by simp) rfl S C
theorem fE.push:∀{dj:List eL} {O:cR},fE cx I w dj O->∀{x:eL} {v:Value},gw cx I w x v->(∀q b,q∈O->bK v=some b->bK q≠some b)->fE cx I w (dj++[x]) (O++[v])
 |[],_,h,x,v,C,_=>by rw[show _=[]from h];exact⟨v,[],rfl,C,by simp,rfl⟩
 |y::r,_,h,x,v,C,hd=>by
  obtain⟨z,Q,rfl,X,Z,S⟩:=h;refine⟨z,Q++[v],rfl,X,λb ab Y=>?_,S.push C λq b u=>hd q b (List.mem_cons_of_mem _ u)⟩;obtain⟨q,u,ae⟩:=List.mem_filterMap.1 Y;rcases List.mem_append.1 u with u|u
  .grind
  .grind
def jl(vs:fz):cb (.tuple vs)=vs.toList.filterMap bK:=rfl
theorem Co{a:cR}{i:Nat}{v:Value}{b:Nat}(h:b∈(a.set i v).filterMap bK):b∈a.filterMap bK\/bK v=some b:=by grind
def eL.obj:eL->bY
 |.sl T sz xs=>.slice T sz xs 0 false
 |.mp K E q=>.map K E q
def eL.empty:eL->eL
 |.sl T sz _=>.sl T sz []
 |.mp _ _ _=>.sl 0 0 []
def eL.Ml(x:eL):gw cx I w x.empty (.slice none 0 0):=by cases x<;>exact .inl ⟨rfl,rfl⟩
theorem gw.obj{x:eL}{v:Value}{β:Nat->Value}{d:Nat}(h:gw cx I w x v)(hd:β d=v):bc cx I β w d x.obj:=by
 cases x with
 |sl T sz xs=>
  simp only[eL.obj,bc,hd];rcases h with⟨h,rfl⟩|⟨b,aM,arr,S,C,O,u,q,Q,X,Z,Y⟩
  .grind
  .grind
 |mp K E ab=>
  simp only[eL.obj,bc,hd];obtain⟨r,es,clock,S,C,O,u,q,Q⟩:=h;exact .inr ⟨r,es,clock,S,C,O,u,q,Q⟩
def at1{T sz:Nat}{xs:List (List H)}{bN:Bool}{β:Nat->Value}{d:Nat}(h:bc cx I β w d (.slice T sz xs 0 bN))(k:β d≠.nilFunc):gw cx I w (.sl T sz xs) (β d):=by
 simp only[bc]at h;rcases h with h|⟨h,rfl,_⟩|⟨m,aM,l,n,c,e,b,a,f,g,_,_,j,i⟩
 .exact absurd h k
 .exact .inl ⟨h,rfl⟩
 .exact .inr ⟨m,aM,l,n,c,e,b,a,f,g,λo=>j o (by omega),i⟩
def gw.ne{x:eL}{v:Value}(h:gw cx I w x v):v≠.nilFunc/\(fl v=true\/jd v=true):=by
 cases x with
 |sl T sz xs=>
  rcases h with⟨h,_⟩|⟨b,aM,arr,q,_⟩
  .rw[h];simp[fl]
  .rw[q];simp[fl]
 |mp K E u=>obtain⟨r,es,clock,q,_⟩:=h;rw[q];simp[jd]
def gw.ve{x:eL}{v:Value}(h:gw cx I w x v){b:Nat}(q:b∈cb v):bK v=some b:=by
 cases v with
 |tuple vs=>
  have:=h.ne.2;simp[fl,jd]at this
 |_=>simpa [cb]using q
end rows
def bY.nh(e2:Nat)(q:Option (hD×Nat)):bY->bY
 |.fA T _ n _=>.fA T e2 n q
 |.ew T sz xs u _ _=>.ew T sz xs u e2 q
 |.dD K E _ keys _ C=>.dD K E e2 keys q C
 |o=>o
def bY.nF:bY->Option (Nat×Option (hD×Nat))
 |.fA _ e _ h=>some (e,h)
 |.ew _ _ _ _ e h=>some (e,h)
 |.dD _ _ e _ h _=>some (e,h)
 |_=>none
def bc.outer{cx:c0}{I:aZ}{β:Nat->Value}{w:World}{d:Nat}{o:bY}{e:Nat}{ah:Option (hD×Nat)}(C:o.nF=some (e,ah))(h:bc cx I β w d o):
  β d=.nilFunc\/∃q Z,β e=.tuple q/\mg β q.toList Z ah/\∃b,bK (β d)=some b:=by
 cases o<;>simp only[bY.nF,Option.some.injEq,Prod.mk.injEq]at C<;>first|(cases C;done)|skip
 .obtain⟨rfl,rfl⟩:=C;simp only[bc]at h;rcases h with O|⟨b,aM,arr,q,u,ab,Y,X,af,Q,ae,S,ai,aj⟩
  .exact .inl O
  .exact .inr ⟨q,_,Q,S,b,by rw[u];rfl⟩
 .obtain⟨rfl,rfl⟩:=C;simp only[bc]at h;rcases h with O|⟨b,aM,arr,q,Z,vs,u,ab,Y,X,af,Q,ae,S,ai⟩
  .exact .inl O
  .exact .inr ⟨q,_,Q,S,b,by rw[u];rfl⟩
 .obtain⟨rfl,rfl⟩:=C;simp only[bc]at h;rcases h with O|⟨r,es,clock,q,Z,u,ab,Y,X,af,Q,ae,S⟩
  .exact .inl O
  .exact .inr ⟨q,_,Y,X,r,by rw[u];rfl⟩
theorem bc.FH{cx:c0}{I:aZ}{β c6:Nat->Value}{w:World}{d:Nat}{o:bY}{e e2:Nat}{X Q:Option (hD×Nat)}{O C:fz}(q:o.nF=some (e,X))(h:bc cx I β w d o)(hd:c6 d=β d)
  (ao:β e=.tuple O) (am:c6 e2=.tuple C) (an:C.size=O.size) (ai:∀u,mg β O.toList u X->mg c6 C.toList u Q):bc cx I c6 w d (o.nh e2 Q):=by
 cases o<;>simp only[bY.nF,Option.some.injEq,Prod.mk.injEq]at q<;>first|(cases q;done)|skip
 .obtain⟨rfl,rfl⟩:=q;simp only[bc,bY.nh,hd]at h ⊢
  grind
 .obtain⟨rfl,rfl⟩:=q;simp only[bc,bY.nh,hd]at h ⊢;rcases h with aq|⟨b,aM,arr,ar,u,vs,Z,ab,ae,Y,ah,S,af,ak,aj⟩
  .exact .inl aq
  .rw[ao]at S;cases S
   exact .inr ⟨b,aM,arr,C,u,vs,Z,ab,ae,Y,ah,am,an.trans af,ai _ ak,aj⟩
 .obtain⟨rfl,rfl⟩:=q;simp only[bc,bY.nh,hd]at h ⊢
  grind
section take
variable {G:bG}{cx:c0}{I:aZ}{β:Nat->Value}{σ:U}{w:World}
def qs(σ:U)(d e e2 t:Nat)(a:bY)(dj:List eL)(i:Nat)(x:eL):U:=(t,x.obj)::(e2,.cE (dj.set i x.empty))::(d,a.nh e2 (some (some i,t)))::σ.minus [d,e]
def nG{σ:U}{a b c:Nat}{e d f:bY}{M:cr}(x:Nat):U.get ((a,e)::(b,d)::(c,f)::σ.minus M) x=if a=x then some e else if b=x then some d else if c=x then some f else if x∈M then none else σ.get x:=by
 rw[atw,atw,atw,atE]
def ms{σ:U}{a b:Nat}{d c:bY}{M:cr}(x:Nat):U.get ((a,d)::(b,c)::σ.minus M) x=if a=x then some d else if b=x then some c else if x∈M then none else σ.get x:=by
 rw[atw,atw,atE]
theorem bx.take(h:bx G cx I β σ w){d e e2 t i:Nat}{ab:bY}{dj:List eL}{x:eL}(hd:σ.get d=some ab)(am:ab.nF=some (e,none))(Z:σ.get e=some (.cE dj))(aD:dj[i]?=some x)(aH:β d≠.nilFunc)
  (aC:σ.get t=none) (aI:σ.get e2=none) (aM:t≠e2) (ba:t∉G.ids) (a6:e2∉G.ids) (aE:σ.clean [t,e2].contains=true) :
  ∃C:fz,β e=.tuple C/\∃v,C[i]?=some v/\gw cx I w x v/\bx G cx I (λy=>if y=t then v else if y=e2 then .tuple (C.setIfInBounds i (.slice none 0 0))else β y) (qs σ d e e2 t ab dj i x) w:=by
 rcases(h.bO d ab hd).outer am with aW|⟨C,ar,Q,aX,bd,a0⟩
 .exact absurd aW aH
 have av:=h.bO e _ Z;simp only[bc,Q,Value.tuple.injEq,reduceCtorEq,false_or]at av;obtain⟨a3,rfl,ak⟩:=av;obtain⟨v,af,ae⟩:=ak.get aD;refine⟨C,Q,v,by simpa using af,ae,?_⟩;have aq:∀y,(σ.get y).isSome->y≠t/\y≠e2:=λy u=>⟨λe=>(by subst e;rw[aC]at u;cases u),λe=>(by subst e;rw[aI]at u;cases u)⟩;have aw:=aq d (by rw[hd];rfl);have bh:=aq e (by rw[Z];rfl);have gD:d≠e:=λY=>by subst Y;rw[hd]at Z;cases Z;cases am
 have aT:i<C.toList.length:=(List.getElem?_eq_some_iff.1 af).1
 let c6:Nat->Value:=λy=>if y=t then v else if y=e2 then .tuple (C.setIfInBounds i (.slice none 0 0))else β y
 have ah:c6 t=v:=by show(if _ then _ else _)=_;rw[if_pos rfl]
 have aj:c6 e2=.tuple (C.setIfInBounds i (.slice none 0 0)):=by show(if _ then _ else _)=_;rw[if_neg (Ne.symm aM),if_pos rfl]
 have aJ:c6 d=β d:=by show(if _ then _ else _)=_;rw[if_neg aw.1,if_neg aw.2]
 have ey:(C.setIfInBounds i (.slice none 0 0)).toList=C.toList.set i (.slice none 0 0):=by simp
 refine h.sU (M:=[d,e,e2,t]) (news:=[t,e2]) (c6:=c6) (λy u=>?_) (λy u=>?_) (λy u=>?_) (λy o _ O=>(atF aE y o O).2) (λy u o O=>?_) (λy u ai c q=>?_) (λy u z hz a7 a1 ai c q au=>?_)
 .simp only[List.mem_cons,List.not_mem_nil,or_false,not_or]at u;rw[qs,nG,if_neg (Ne.symm u.2.2.2),if_neg (Ne.symm u.2.2.1),if_neg (Ne.symm u.1),if_neg (by simp[u.1,u.2.1])]
 .grind
 .grind
 .rw[qs,nG]at O;split at O
  .rename_i Y;subst Y;cases O;exact ae.obj ah
  .split at O
   .rename_i Y;subst Y;cases O
    simp only[bc];refine .inr ⟨_,aj,?_⟩;rw[ey];exact ak.set x.Ml λj S b _ _ aG=>by cases aG
   .split at O
    .rename_i Y;subst Y;cases O
     refine(h.bO d ab hd).FH am aJ Q aj (by simp) λar aF=>?_;rw[show ar=C.toList from aF,ey];refine⟨by simpa using aT,by rw[ah];exact ae.ne.1,?_⟩;rw[ah,List.set_set];apply List.ext_getElem?
     grind
    .grind
 .simp only[List.mem_cons,List.not_mem_nil,or_false]at u;rw[qs,nG]at ai;by_cases a9:y=d
  .grind
  by_cases aV:y=t
  .subst aV;rw[ah]at q;exact⟨e,by simp,by rw[Z];rfl,by rw[Q,jl];exact List.mem_filterMap.2 ⟨v,List.mem_of_getElem? af,ae.ve q⟩⟩
  by_cases aU:y=e2
  .subst aU;rw[aj,jl,ey]at q;rcases Co q with q|q
   .exact⟨e,by simp,by rw[Z];rfl,by rw[Q,jl];exact q⟩
   .cases q
  .grind
 ·
  have a5:∀y,y∈[d,e,e2,t]->(U.get (qs σ d e e2 t ab dj i x) y).isSome->y=d\/y=e2\/y=t:=λy u ai=>by
   rw[qs,nG]at ai;simp only[List.mem_cons,List.not_mem_nil,or_false]at u;rcases u with rfl|rfl|rfl|rfl
   .exact .inl rfl
   .grind
   .omega
   .omega
  have bb:∀c,c∈cb (β d)->c∉cb (β e):=h.cq d e (by rw[hd];rfl) (by rw[Z];rfl) gD
  have q2:∀c,c∈cb (c6 e2)->∃j S,j≠i/\C.toList[j]?=some S/\bK S=some c:=λc q=>by
   rw[aj,jl,ey]at q;obtain⟨S,ao,an⟩:=List.mem_filterMap.1 q;obtain⟨j,X⟩:=List.getElem?_of_mem ao;rw[List.getElem?_set]at X;split at X
   .rename_i a4;cases X;cases an
   .grind
  have bi:∀c,c∈cb (c6 e2)->c∈cb (β e):=λc q=>by
   obtain⟨j,S,_,X,ao⟩:=q2 c q;rw[Q,jl];exact List.mem_filterMap.2 ⟨S,List.mem_of_getElem? X,ao⟩
  have ax:∀c,c∈cb (c6 t)->bK v=some c:=λc q=>by rw[ah]at q;exact ae.ve q
  have bj:∀c,c∈cb (c6 t)->c∈cb (β e):=λc q=>by
   rw[Q,jl];exact List.mem_filterMap.2 ⟨v,List.mem_of_getElem? af,ax c q⟩
  have a8:∀c,c∈cb (c6 e2)->c∈cb (c6 t)->False:=λc q au=>by
   obtain⟨j,S,X,aQ,an⟩:=q2 c q;exact ak.ne X aQ af an (ax c au)
  grind
theorem bx.back(h:bx G cx I β σ w){d e e2 t i:Nat}{O:bY}{dj:List eL}{T sz:Nat}{xs:List (List H)}{bN:Bool}(hd:σ.get d=some O)(X:O.nF=some (e,some (some i,t)))(S:σ.get e=some (.cE dj))
  (Q:σ.get t=some (.slice T sz xs 0 bN)) (aE:σ.get e2=none) (aG:e2∉G.ids) (aw:σ.clean [e2].contains=true) :
  ∃c6,(∀y,y≠e2->c6 y=β y)/\bx G cx I c6 ((e2,.cE (dj.set i (.sl T sz xs)))::(d,O.nh e2 none)::σ.minus [d,e,t]) w:=by
 have ak:∀y,(σ.get y).isSome->y≠e2:=λy q e=>by subst e;rw[aE]at q;cases q
 have ar:=ak d (by rw[hd];rfl);have a7:=ak e (by rw[S];rfl);have a9:=ak t (by rw[Q];rfl);have gD:d≠e:=λZ=>by subst Z;rw[hd]at S;cases S;cases X
 have aQ:d≠t:=λZ=>by subst Z;rw[hd]at Q;cases Q;cases X
 have aT:e≠t:=λZ=>by subst Z;rw[S]at Q;cases Q
 have aH:∃C:Value,(O.nF=some (e,some (some i,t))->∀c6:Nat->Value,(∀y,y≠e2->c6 y=β y)->c6 e2=C->bc cx I c6 w d (O.nh e2 none)/\bc cx I c6 w e2 (.cE (dj.set i (.sl T sz xs))))/\∀c∈cb C,c∈cb (β e)\/c∈cb (β t):=by
  rcases(h.bO d O hd).outer X with ae|⟨Y,a0,af,⟨aV,aU,ba⟩,bd,aX⟩
  .refine⟨.nilFunc,λ_ c6 au ah=>⟨?_,by simp only[bc];exact .inl ah⟩,by simp[Ce]⟩;have:c6 d=.nilFunc:=by rw[au d ar];exact ae
   cases O<;>simp only[bY.nF,reduceCtorEq]at X<;>simp only[bY.nh,bc]<;>exact .inl this
  .have aj:=h.bO e _ S;simp only[bc,af,Value.tuple.injEq,reduceCtorEq,false_or]at aj;obtain⟨a4,rfl,av⟩:=aj;have ax:=at1 (h.bO t _ Q) aU;refine⟨.tuple (Y.setIfInBounds i (β t)),λ_ c6 au ah=>⟨?_,?_⟩,λc u=>?_⟩
   .refine(h.bO d O hd).FH X (au d ar) af ah (by simp) λaJ ao=>?_;obtain⟨_,_,ao⟩:=ao;show aJ=_;rw[ao];simp
   .simp only[bc];refine .inr ⟨_,ah,?_⟩;rw[show(Y.setIfInBounds i (β t)).toList=Y.toList.set i (β t)by simp];refine av.set ax λj C b aW aI aM aj=>?_;refine h.cq e t (by rw[S];rfl) (by rw[Q];rfl) aT b ?_ (g4 aM);rw[af,jl];exact List.mem_filterMap.2 ⟨C,List.mem_of_getElem? aI,aj⟩
   .rw[jl,show(Y.setIfInBounds i (β t)).toList=Y.toList.set i (β t)by simp]at u;rcases Co u with u|u
    .exact .inl (by rw[af,jl];exact u)
    .exact .inr (g4 u)
 obtain⟨C,aD,aC⟩:=aH;have ab:∀y,y≠e2->(λy=>if y=e2 then C else β y) y=β y:=λy q=>if_neg q;have aq:(λy=>if y=e2 then C else β y) e2=C:=if_pos rfl;refine⟨λy=>if y=e2 then C else β y,ab,?_⟩;generalize (λy=>if y=e2 then C else β y)=c6 at ab aq;obtain⟨a5,a1⟩:=aD X c6 ab aq
 have aF:∀y,y∈[d,e,e2,t]->(U.get ((e2,.cE (dj.set i (.sl T sz xs)))::(d,O.nh e2 none)::σ.minus [d,e,t]) y).isSome->y=d\/y=e2:=λy q am=>by
  rw[ms]at am;simp only[List.mem_cons,List.not_mem_nil,or_false]at q;rcases q with rfl|rfl|rfl|rfl
  .exact .inl rfl
  .grind
  .exact .inr rfl
  .grind
 have a8:∀c,c∈cb (c6 d)->c∉cb (c6 e2):=λc u an=>by
  rw[ab d ar]at u;rw[aq]at an;rcases aC c an with ae|ae
  .exact h.cq d e (by rw[hd];rfl) (by rw[S];rfl) gD c u ae
  .exact h.cq d t (by rw[hd];rfl) (by rw[Q];rfl) aQ c u ae
 refine h.sU (M:=[d,e,e2,t]) (news:=[e2]) (c6:=c6) (λy q=>?_) (λy q=>ab y (by simpa using q)) (λy q=>by simp only[List.mem_singleton]at q;subst q;exact⟨by simp,aG⟩) (λy o _ ai=>(atF aw y o ai).2) (λy q o ai=>?_) (λy q am c u=>?_) (λy q z hz a6 a3 am c u an=>?_)
 .simp only[List.mem_cons,List.not_mem_nil,or_false,not_or]at q;rw[ms,if_neg (Ne.symm q.2.2.1),if_neg (Ne.symm q.1),if_neg (by simp[q.1,q.2.1,q.2.2.2])]
 .have:=aF y q (by rw[ai];rfl);rw[ms]at ai
  grind
 .grind
 .grind
end take
end
section
def di{α:Type}(k:IntKind)(l:List (Int×α)):List H:=l.map λa=>.int k a.1
def dZ{α:Type}(T:TypeId)(sz:Nat)(enc:α->List H)(l:List (Int×List α)):List eL:=l.map λa=>.sl T sz (a.2.map enc)
def eR{α:Type}:List (Int×α)->Int->Nat
 |[],_=>0
 |p::r,n=>if p.1=n then 0 else eR r n+1
def gI{α:Type}:List (Int×List α)->Int->List (Int×List α)
 |[],_=>[]
 |p::r,n=>if p.1=n then(p.1,[])::r else p::gI r n
def hL{α:Type}(l:List (Int×α))(n:Int)(t:Nat):Option (hD×Nat):=some (bif (aB l n).isSome then some (eR l n)else none,t)
variable {α:Type}
def gB(p:Int×α)(r:List (Int×α))(n:Int):aB (p::r) n=if p.1=n then some p.2 else aB r n:=by
 by_cases a:p.1=n<;>simp[aB,List.find?,a]
def DR{α:Type}:∀{l:List (Int×List α)} {n:Int},aB l n=none->gI l n=l
 |[],_,_=>rfl
 |p::r,n,h=>by
  rw[gB]at h;split at h
  .cases h
  .rename_i a;simp only[gI,if_neg a,DR h]
def Ed{α:Type}:∀(l:List (Int×List α)) (n:Int) (v:List α),bM (gI l n) n v=bM l n v
 |[],_,_=>rfl
 |p::r,n,v=>by
  by_cases a:p.1=n
  .simp[gI,bM,a]
  .simp[gI,bM,a,Ed r n v]
def DS{α:Type}(k:IntKind):∀(l:List (Int×List α)) (n:Int),di k (gI l n)=di k l
 |[],_=>rfl
 |p::r,n=>by
  by_cases a:p.1=n
  .simp[gI,a,di]
  .have:=DS k r n;simp only[di]at this;simp[gI,a,di,this]
def DT{α:Type}:∀(l:List (Int×List α)) (n:Int),(aB (gI l n) n).isSome=(aB l n).isSome
 |[],_=>rfl
 |p::r,n=>by
  by_cases a:p.1=n
  .simp[gI,a,gB]
  .simp[gI,a,gB,DT r n]
def Ee{α:Type}:∀(l:List (Int×List α)) (n:Int),eR (gI l n) n=eR l n
 |[],_=>rfl
 |p::r,n=>by
  by_cases a:p.1=n
  .simp[gI,a,eR]
  .simp[gI,a,eR,Ee r n]
def Kw(l:List (Int×List α))(n:Int)(t:Nat):hL (gI l n) n t=hL l n t:=by simp[hL,DT,Ee]
def zK{α:Type}:∀{l:List (Int×α)} {n:Int} {a:α},aB l n=some a->∃m,m=n/\l[eR l n]?=some (m,a)
 |[],_,_,h=>by simp[aB]at h
 |p::r,n,a,h=>by
  rw[gB]at h;split at h
  .rename_i b;cases h;exact⟨p.1,b,by simp only[eR,if_pos b];rfl⟩
  .rename_i b;obtain⟨m,d,c⟩:=zK h;exact⟨m,d,by simp[eR,b,c]⟩
def vc{α:Type}:∀{l:List (Int×α)} {n:Int} {a:α} (v:α),aB l n=some a->bM l n v=l.set (eR l n) (n,v)
 |[],_,_,_,h=>by simp[aB]at h
 |p::r,n,a,v,h=>by
  rw[gB]at h;split at h
  .rename_i b;simp[bM,eR,b]
  .rename_i b;simp[bM,eR,b,vc v h]
def uZ{α:Type}:∀{l:List (Int×α)} {n:Int} (v:α),aB l n=none->bM l n v=l++[(n,v)]
 |[],_,_,_=>rfl
 |p::r,n,v,h=>by
  rw[gB]at h;split at h
  .cases h
  .rename_i a;simp[bM,a,uZ v h]
def zl{α:Type}:∀{l:List (Int×List α)} {n:Int} {a:List α},aB l n=some a->gI l n=l.set (eR l n) (n,[])
 |[],_,_,h=>by simp[aB]at h
 |p::r,n,a,h=>by
  rw[gB]at h;split at h
  .rename_i b;simp[gI,eR,b]
  .rename_i b;simp[gI,eR,b,zl h]
def vG{T:TypeId}{sz:Nat}{enc:α->List H}(l:List (Int×List α))(i:Nat)(n:Int)(v:List α):dZ T sz enc (l.set i (n,v))=(dZ T sz enc l).set i (.sl T sz (v.map enc)):=by simp[dZ,List.map_set]
theorem Ef{k:IntKind}{l:List (Int×α)}{n:Int}{a:α}(v:α)(h:aB l n=some a):di k (l.set (eR l n) (n,v))=di k l:=by
 obtain⟨c,rfl,b⟩:=zK h;simp only[di,List.map_set];apply List.ext_getElem?
 grind
theorem Cp{I:aZ}{α:Type}{k:IntKind}(n:Int):∀(l:List (Int×α)) (vs:cR) (es:iq) (i:Nat) (a:α),gv I (di k l) vs es->aB l n=some a->
  ∃v e,vs[eR l n]?=some v/\es[eR l n]?=some e/\e.key=.int k n/\Instr.findNow (.int k) (.int k n) es i=some (some (i+eR l n,v))/\
   ∀(d:Value) (c:MapEntry->MapEntry),(∀e,(c e).key=.int k n/\(c e).val=d)->gv I (di k l) (vs.set (eR l n) d) (es.modify (eR l n) c)
 |[],vs,es,i,a,h,f=>by simp[aB]at f
 |(m,b)::r,vs,es,i,a,h,f=>by
  simp only[di,List.map_cons,gv]at h;obtain⟨v,q,e,t,rfl,rfl,g,s,p⟩:=h;simp only[aS]at g;rw[gB]at f;by_cases o:m=n
  .subst o;simp only[eR,if_true];refine⟨v,e,rfl,rfl,g,by simp[Instr.findNow,Instr.sameNow,g,s],λd c j=>?_⟩;simp only[di,List.map_cons,List.set_cons_zero,List.modify_zero_cons,gv];exact⟨d,q,c e,t,rfl,rfl,by simp only[aS];exact(j e).1,(j e).2,p⟩
  .rw[if_neg o]at f;obtain⟨y,A,u,w,x,B,z⟩:=Cp n r q t (i+1) a p f;simp only[eR,if_neg o];refine⟨y,A,by simpa using u,by simpa using w,x,?_,λd c j=>?_⟩
   .simp only[Instr.findNow,Instr.sameNow,g,if_pos]
    grind
   .simp only[di,List.map_cons,List.set_cons_succ,List.modify_succ_cons,gv];exact⟨v,_,e,_,rfl,rfl,by simp only[aS];exact g,s,z d c j⟩
theorem Cq{I:aZ}{α:Type}{k:IntKind}(n:Int):∀(l:List (Int×α)) (vs:cR) (es:iq) (i:Nat),gv I (di k l) vs es->aB l n=none->
  Instr.findNow (.int k) (.int k n) es i=some none/\∀(b:α) (e:MapEntry),e.key=.int k n->gv I (di k (l++[(n,b)])) (vs++[e.val]) (es++[e])
 |[],vs,es,i,h,a=>by
  simp only[di,List.map_nil,gv]at h;obtain⟨rfl,rfl⟩:=h;refine⟨rfl,λb e f=>?_⟩;simp only[List.nil_append,di,List.map_cons,List.map_nil,gv];exact⟨e.val,[],e,[],rfl,rfl,by simp only[aS];exact f,rfl,rfl,rfl⟩
 |(m,c)::r,vs,es,i,h,a=>by
  simp only[di,List.map_cons,gv]at h;obtain⟨u,o,e,t,rfl,rfl,d,q,j⟩:=h;simp only[aS]at d;rw[gB]at a;have g:m≠n:=λg=>by rw[if_pos g]at a;cases a
  rw[if_neg g]at a;obtain⟨v,p⟩:=Cq n r o t (i+1) j a;refine⟨?_,λb s f=>?_⟩
  .simp only[Instr.findNow,Instr.sameNow,d,if_pos]
   grind
  .have:=p b s f;simp only[di]at this;simp only[di,List.cons_append,List.map_cons,gv];exact⟨u,_,e,_,rfl,rfl,by simp only[aS];exact d,q,this⟩
def gv.length{I:aZ}:∀{ks:List H} {vs:cR} {es:iq},gv I ks vs es->vs.length=ks.length/\es.length=ks.length
 |[],_,_,h=>by obtain⟨rfl,rfl⟩:=h;exact⟨rfl,rfl⟩
 |k::ks,_,_,h=>by
  obtain⟨v,u,e,C,rfl,rfl,_,_,q⟩:=h;have:=q.length;simp[this.1,this.2]
section
variable {G:bG}{σ:U}{o:Oper}{ev:Operand->H}
theorem D.P5{α:Type}{aC:Option (gl×Nat)}{T K E d e e2 t aQ sz:Nat}{k:IntKind}{x y:Operand}{n:Int}(l:List (Int×List α))(enc:α->List H)(h:o.op=.lookup T x y false)(O:ev x=.b6 d)(q:ev y=.int k n)
  (hd:σ.get d=some (.dD K E e (di k l) none aC)) (Z:σ.get e=some (.cE (dZ aQ sz enc l))) (aE:fZ G.P T K E k) (hz:∀w,(zeroValue E).run G.P w=.ok (.slice none 0 0) w)
  (aH:σ.get t=none) (a7:σ.get e2=none) (aG:t≠e2) (bE:G.ids.contains t=false) (bD:G.ids.contains e2=false) (a3:σ.clean [t,e2].contains=true) :
  eB G o ev σ [d,e,e2,t] [t,e2] (λr bq=>r=.own t/\bq=(t,.slice aQ sz (((aB l n).getD []).map enc) 0 false)::(e2,.cE (dZ aQ sz enc (gI l n)))::(d,.dD K E e2 (di k l) (hL l n t) aC)::σ.minus [d,e]):=by
 intro cx I β w aT ah aV;have Y:=aV x (by simp[h,Op.operands]);rw[O]at Y
 have af:=aV y (by simp[h,Op.operands]);rw[q]at af;have af:=fB af
 simp only[au]at Y;obtain⟨Y,bb⟩:=Y;have a6:β d≠.nilFunc:=λe=>by rw[Y,e]at bb;simp[jd]at bb
 have a9:=ah.bO d _ hd;simp only[bc,a6,false_or]at a9;obtain⟨r,es,clock,ab,bt,aq,aI,aU,bo,aj,bs,br,bv⟩:=a9;rw[show bt=ab.toList from bo]at aj;have bj:∀w,(underlying T).run G.P w=.ok (.map K E) w:=λw=>by simp[underlying,program,Sem.run,aE.en]
 have a8:∀w,(underlying K).run G.P w=.ok (.int k) w:=λw=>by simp[underlying,program,Sem.run,aE.key]
 have a0:=rP (P:=G.P) aI;have a5:=uA (P:=G.P) aE.key (es.isEmpty) n w;have bT:t∉G.ids:=by simpa using bE
 have bK:e2∉G.ids:=by simpa using bD
 have aD:∀x,x∉[d,e,e2,t]->∀(ba aJ bh:bY),U.get ((t,ba)::(e2,aJ)::(d,bh)::σ.minus [d,e]) x=σ.get x:=λx O ba aJ bh=>by
  simp only[List.mem_cons,List.not_mem_nil,or_false,not_or]at O;rw[nG,if_neg (Ne.symm O.2.2.2),if_neg (Ne.symm O.2.2.1),if_neg (Ne.symm O.1),if_neg (by simp[O.1,O.2.1])]
 cases S:aB l n with
 |some a=>
  obtain⟨v,a4,a1,bV,b0,bB,_⟩:=Cp n l ab.toList es.toList 0 a aj S;obtain⟨m,b2,bM⟩:=zK S;have bA:(dZ aQ sz enc l)[eR l n]?=some (.sl aQ sz (a.map enc)):=by simp[dZ,bM]
  obtain⟨ae,aX,ak,bX,bu,bC⟩:=ah.take hd rfl Z bA a6 aH a7 aG bT bK a3;rw[aU]at aX;cases aX
  have bp:ak=v:=by grind
  subst bp;have ax:(Instr.findKey K (.int k n) es.toList).run G.P w=.ok (some (0+eR l n,ak)) w:=by simp[Instr.findKey,a8,bB]
  have aw:(execOp aT o).run G.P w=.ok (.value ak) w:=by simp[execOp,h,Instr.lookup,Y,aq,af,bj,a0,a5,ax]
  rw[aw];refine⟨.own t,_,I,λy=>if y=t then ak else if y=e2 then .tuple (ab.setIfInBounds (eR l n) (.slice none 0 0))else β y,⟨rfl,rfl⟩,?_,?_,bQ.refl I,λy q=>?_,λy q=>aD y q _ _ _⟩
  .simp only[au,if_true];refine⟨trivial,?_⟩;rcases bu with⟨bl,_⟩|⟨b,aM,arr,bl,_⟩<;>rw[bl]<;>rfl
  .have av:hL l n t=some (some (eR l n),t):=by simp[hL,S]
   rw[av,zl S,vG];exact bC
  .grind
 |none=>
  obtain⟨a1,_⟩:=Cq n l ab.toList es.toList 0 aj S;have ax:(Instr.findKey K (.int k n) es.toList).run G.P w=.ok none w:=by simp[Instr.findKey,a8,a1]
  have aw:(execOp aT o).run G.P w=.ok (.value (.slice none 0 0)) w:=by simp[execOp,h,Instr.lookup,Y,aq,af,bj,a0,a5,ax,hz w]
  rw[aw]
  let c6:Nat->Value:=λy=>if y=t then .slice none 0 0 else if y=e2 then β e else β y
  have X:c6 t=.slice none 0 0:=by show(if _ then _ else _)=_;rw[if_pos rfl]
  have ai:c6 e2=β e:=by show(if _ then _ else _)=_;rw[if_neg (Ne.symm aG),if_pos rfl]
  have ar:∀y,y∉[t,e2]->c6 y=β y:=λy q=>by
   simp only[List.mem_cons,List.not_mem_nil,or_false,not_or]at q;show(if _ then _ else _)=_;rw[if_neg q.1,if_neg q.2]
  have aW:∀y,(σ.get y).isSome->y≠t/\y≠e2:=λy q=>⟨λe=>(by subst e;rw[aH]at q;cases q),λe=>(by subst e;rw[a7]at q;cases q)⟩;have ao:=aW d (by rw[hd];rfl);have b1:=aW e (by rw[Z];rfl);have gD:d≠e:=λa4=>by subst a4;rw[hd]at Z;cases Z
  have am:c6 d=β d:=ar d (by simp[ao.1,ao.2]);have av:hL l n t=some (none,t):=by simp[hL,S]
  refine⟨.own t,_,I,c6,⟨rfl,rfl⟩,by simp only[au,X,fl,and_self],?_,bQ.refl I,ar,λy q=>aD y q _ _ _⟩;rw[av,DR S];simp only[Option.getD_none,List.map_nil]
  have an:∀y,y∈[d,e,e2,t]->(U.get ((t,bY.slice aQ sz [] 0 false)::(e2,.cE (dZ aQ sz enc l))::(d,.dD K E e2 (di k l) (some (none,t)) aC)::σ.minus [d,e]) y).isSome->y=d\/y=e2\/y=t:=λy q ae=>by
   rw[nG]at ae;simp only[List.mem_cons,List.not_mem_nil,or_false]at q;rcases q with rfl|rfl|rfl|rfl
   .exact .inl rfl
   .grind
   .omega
   .omega
  have bi:∀c,c∈cb (β d)->c∉cb (β e):=ah.cq d e (by rw[hd];rfl) (by rw[Z];rfl) gD;refine ah.sU (M:=[d,e,e2,t]) (news:=[t,e2]) (c6:=c6) (λy q=>aD y q _ _ _) ar (λy q=>?_) (λy o _ C=>(atF a3 y o C).2) (λy q o C=>?_) (λy q ae c u=>?_) (λy q z hz aF bz ae c u Q=>?_)
  .grind
  .have:=an y q (by rw[C];rfl);rw[nG]at C;rcases this with rfl|rfl|rfl
   .rw[if_neg (Ne.symm ao.1),if_neg (Ne.symm ao.2),if_pos rfl]at C;cases C
    simp only[bc,am,ai];exact .inr ⟨r,es,clock,ab,ab.toList,aq,aI,aU,rfl,aj,bs,br,bv⟩
   .rw[if_neg aG,if_pos rfl]at C;cases C
    have:=ah.bO e _ Z;simp only[bc,ai]at this ⊢;exact this
   .rw[if_pos rfl]at C;cases C
    simp only[bc,X];exact .inr (.inl ⟨trivial,trivial,trivial⟩)
  .rcases an y q ae with rfl|rfl|rfl
   .rw[am]at u;exact⟨y,by simp,by rw[hd];rfl,u⟩
   .rw[ai]at u;exact⟨e,by simp,by rw[Z];rfl,u⟩
   .rw[X]at u;cases u
  .rcases an y q bz with rfl|rfl|rfl<;>rcases an z hz ae with rfl|rfl|rfl
   .exact aF rfl
   .rw[am]at u;rw[ai]at Q;exact bi c u Q
   .rw[X]at Q;cases Q
   .rw[am]at Q;rw[ai]at u;exact bi c Q u
   .exact aF rfl
   .rw[X]at Q;cases Q
   .rw[X]at u;cases u
   .rw[X]at u;cases u
   .exact aF rfl
end
end
section
section put
variable {G:bG}{cx:c0}{I:aZ}{β:Nat->Value}{σ:U}{w:World}
theorem bx.P6(h:bx G cx I β σ w){d e e2 r K E ar:Nat}{keys ab:List H}{a3:Option (hD×Nat)}{a5:Option (gl×Nat)}{dj Z:List eL}{O:cr}{C:fz}{ai:gl}{w':World}
  (hd:σ.get d=some (.dD K E e keys a3 a5)) (aC:σ.get e=some (.cE dj)) (af:β d=.map (some r)) (a6:σ.get e2=none) (bl:e2∉G.ids) (a0:σ.clean [e2].contains=true) (a8:d∉O)
  (aQ:eD w w' r) (a1:w'.heap[r]?=some (.map ai ar)) (aU:fE cx I w Z C.toList) (a7:gv I ab C.toList ai.toList) (aW:gQ ai ar)
  (aG:∀c∈C.toList.filterMap bK,c∈cb (β e)\/∃y∈O,(σ.get y).isSome/\c∈cb (β y)) :
  bx G cx I (λy=>if y=e2 then .tuple C else β y) ((e2,.cE Z)::(d,.dD K E e2 ab none none)::σ.minus (d::e::O)) w':=by
 have aJ:=h.bO d _ hd;simp only[bc,af,reduceCtorEq,false_or]at aJ;obtain⟨bo,es,clock,ae,bh,aT,ba,bb,a9,bi,aE,aD,bj,_⟩:=aJ;cases aT;have X:(σ.get d).isSome:=by rw[hd];rfl
 have aF:(σ.get e).isSome:=by rw[aC];rfl
 have aV:∀y,(σ.get y).isSome->y≠e2:=λy q e=>by subst e;rw[a6]at q;cases q
 have gD:d≠e:=λak=>by subst ak;rw[hd]at aC;cases aC
 have ao:r∈cb (β d):=g4 (by rw[af];rfl)
 have aM:∀c∈C.toList.filterMap bK,c≠r:=λc u e=>by
  subst e;rcases aG c u with Q|⟨y,aq,av,aw⟩
  .exact h.cq d e X aF gD c ao Q
  .exact h.cq d y X av (λe=>a8 (e▸aq)) c ao aw
 have am:∀y,y≠e2->(λy=>if y=e2 then(Value.tuple C)else β y) y=β y:=λy q=>if_neg q;have Y:(λy=>if y=e2 then(Value.tuple C)else β y) e2=.tuple C:=if_pos rfl;generalize (λy=>if y=e2 then(Value.tuple C)else β y)=c6 at am Y;have au:c6 d=β d:=am d (aV d X)
 have aH:∀y,y∈d::e::e2::O->∀o,(U.get ((e2,.cE Z)::(d,.dD K E e2 ab none none)::σ.minus (d::e::O)) y)=some o->(y=d/\o=.dD K E e2 ab none none)\/(y=e2/\o=.cE Z):=λy q o ah=>by
  rw[ms]at ah;split at ah
  .grind
  .grind
 have ax:∀y,y∈d::e::e2::O->(U.get ((e2,.cE Z)::(d,.dD K E e2 ab none none)::σ.minus (d::e::O)) y).isSome->y=d\/y=e2:=λy q ae=>by
  obtain⟨o,ah⟩:=Option.isSome_iff_exists.1 ae;rcases aH y q o ah with Q|Q
  .exact .inl Q.1
  .exact .inr Q.1
 have q2:∀c,c∈cb (c6 e2)->c∈cb (β e)\/∃y∈O,(σ.get y).isSome/\c∈cb (β y):=λc u=>aG c (by rw[Y]at u;exact u)
 have sep:∀c,c∈cb (c6 d)->c∉cb (c6 e2):=λc u S=>by
  rw[au,af]at u;have:c=r:=by simpa [cb,bK]using u
  exact aM c (by rw[Y]at S;exact S) this
 refine h.redo (M:=d::e::e2::O) (news:=[e2]) (b:=r) (c6:=c6) aQ aE (λy q ae ak=>?_) aD (λy q=>?_) (λy q=>am y (by simpa using q)) (λy q=>?_) (λy o _ an=>(atF a0 y o an).2) (λy q o an=>?_) (λy q aj c u=>?_) (λy q z hz aI a4 aj c u S=>?_)
 .exact h.cq d y X ae (λe=>q (by simp[e])) r ao ak
 .simp only[List.mem_cons,not_or]at q;rw[ms,if_neg (Ne.symm q.2.2.1),if_neg (Ne.symm q.1),if_neg (by simp[q.1,q.2.1,q.2.2.2])]
 .grind
 .rcases aH y q o an with⟨rfl,rfl⟩|⟨rfl,rfl⟩
  .simp only[bc,au,af,Y];exact .inr ⟨r,ai,ar,C,C.toList,rfl,a1,rfl,rfl,a7,aE,aD,aW,by simp⟩
  .simp only[bc];exact .inr ⟨C,Y,aU.go (bQ.refl I) λc u=>⟨λaX=>aQ.block c (aM c u) aX,λ_=>rfl,id⟩⟩
 .rcases ax y q aj with rfl|rfl
  .rw[au]at u;exact⟨y,by simp,X,u⟩
  .rcases q2 c u with Q|⟨y,aq,av,aw⟩
   .exact⟨e,by simp,aF,Q⟩
   .exact⟨y,by simp[aq],av,aw⟩
 .rcases ax y q a4 with rfl|rfl<;>rcases ax z hz aj with rfl|rfl
  .exact aI rfl
  .exact sep c u S
  .exact sep c S u
  .exact aI rfl
end put
section
variable {G:bG}{σ:U}{o:Oper}{ev:Operand->H}
theorem auL{α:Type}{T K E d e e2 aQ sz:Nat}{k:IntKind}{x y b:Operand}{n:Int}{bN:Bool}{bj:Option (gl×Nat)}{ai:Option (hD×Nat)}(s:cr)(l:List (Int×List α))(enc:α->List H)(row:List α)(h:o.op=.mapUpdate T x y b\/o.op=.insert T x y b)(a9:ev x=.b6 d)(m:ev y=.int k n)
  (N:(ev b=.az/\row=[]/\s=[])\/∃j,ev b=.own j/\σ.get j=some (.slice aQ sz (row.map enc) 0 bN)/\s=[j])
  (a7:σ.get d=some (.dD K E e (di k l) ai bj)) (aH:ai=none\/∃t,ai=hL l n t) (ax:σ.get e=some (.cE (dZ aQ sz enc l))) (an:fZ G.P T K E k)
  (br:σ.get e2=none) (bs:G.ids.contains e2=false) (bh:σ.clean [e2].contains=true) :
  eB G o ev σ (d::e::e2::s) [e2] (λr J=>r=.undef/\J=(e2,.cE (dZ aQ sz enc (bM l n row)))::(d,.dD K E e2 (di k (bM l n row)) none none)::σ.minus (d::e::s)):=by
 intro cx I β w c F ae;have ar:x∈o.op.operands/\y∈o.op.operands/\b∈o.op.operands:=by rcases h with h|h<;>simp[h,Op.operands]
 have C:=ae x ar.1;rw[a9]at C
 have D:=ae y ar.2.1;rw[m]at D;have D:=fB D
 have q:=ae b ar.2.2;simp only[au]at C;obtain⟨C,aX⟩:=C;have bp:β d≠.nilFunc:=λe=>by rw[C,e]at aX;simp[jd]at aX
 have aW:=F.bO d _ a7;simp only[bc,bp,false_or]at aW;obtain⟨r,B,W,i,O,X,Y,ab,u,af,b1,b0,aI,_⟩:=aW;have S:=F.bO e _ ax;simp only[bc,ab,Value.tuple.injEq,reduceCtorEq,false_or]at S;obtain⟨b2,rfl,aF⟩:=S;have ba:gw cx I w (.sl aQ sz (row.map enc)) (c b)/\(∀g,bK (c b)=some g->∃y∈s,(σ.get y).isSome/\g∈cb (β y))/\d∉s/\e∉s:=by
  rcases N with⟨N,rfl,rfl⟩|⟨j,N,aE,rfl⟩
  .rw[N]at q;simp only[au,aS]at q;rw[q];exact⟨Or.inl ⟨rfl,rfl⟩,λg (f:none=some g)=>(by cases f),by simp,by simp⟩
  .rw[N]at q;simp only[au]at q;obtain⟨q,a1⟩:=q;rw[q];refine⟨at1 (F.bO j _ aE) λe=>(by rw[q,e]at a1;cases a1),λg f=>⟨j,by simp,by rw[aE];rfl,g4 f⟩,λbE=>?_,λbE=>?_⟩
   all_goals grind
 obtain⟨aT,bo,bV,bX⟩:=ba
 have a3:∀v A,v∈i.toList->bK (c b)=some A->bK v≠some A:=λv A aC aw S=>by
  obtain⟨y,bq,bz,bA⟩:=bo A aw;refine F.cq e y (by rw[ax];rfl) bz (λe=>bX (e▸bq)) A ?_ bA;rw[ab,jl];exact List.mem_filterMap.2 ⟨v,aC,S⟩
 have bB:e2∉G.ids:=by simpa using bs
 have a5:∀w,(underlying T).run G.P w=.ok (.map K E) w:=λw=>by simp[underlying,program,Sem.run,an.en]
 have aV:∀w,(underlying K).run G.P w=.ok (.int k) w:=λw=>by simp[underlying,program,Sem.run,an.key]
 have aG:=rP (P:=G.P) Y;have aM:=uA (P:=G.P) an.key false n w;have aJ:∀z:Obj,(setObj r z).run G.P w=.ok () {w with heap:=w.heap.setIfInBounds r z}:=λz=>by simp[setObj,Sem.run,Y]
 have bu:∀z:Obj,({w with heap:=w.heap.setIfInBounds r z}:World).heap[r]?=some z:=λz=>by have:=fv Y;simp[Array.getElem?_setIfInBounds,this]
 have a6:∀(R:fz) (aq:List eL) (av:List H) (M:gl) (V:Nat),aq=dZ aQ sz enc (bM l n row)->av=di k (bM l n row)->
   (execOp c o).run G.P w=.ok .skip {w with heap:=w.heap.setIfInBounds r (.map M V)}->fE cx I w aq R.toList->gv I av R.toList M.toList->gQ M V->
   (∀g∈R.toList.filterMap bK,g∈i.toList.filterMap bK\/bK (c b)=some g)->
   hc G.P (λbT bY=>∃a4,∃J:U,∃Z aD,(a4=.undef/\J=(e2,.cE (dZ aQ sz enc (bM l n row)))::(d,.dD K E e2 (di k (bM l n row)) none none)::σ.minus (d::e::s))/\au Z aD a4 bT/\bx G cx Z aD J bY/\bQ I Z/\(∀d,d∉[e2]->aD d=β d)/\(∀x,x∉d::e::e2::s->J.get x=σ.get x)) ((execOp c o).run G.P w):=by
  intro R aq av M V Q L aj am ao bC bD;subst Q L;rw[aj]
  have:=F.P6 a7 ax X br bB bh bV (atU w r (.map M V)) (bu _) am ao bC λg f=>by
   rcases bD g f with a8|a8
   .exact .inl (by rw[ab,jl];exact a8)
   .grind
  refine⟨.undef,_,I,_,⟨rfl,rfl⟩,by simp[au,aS],this,bQ.refl I,λy m=>if_neg (by simpa using m),λy m=>?_⟩;simp only[List.mem_cons,not_or]at m;rw[ms,if_neg (Ne.symm m.2.2.1),if_neg (Ne.symm m.1),if_neg (by simp[m.1,m.2.1,m.2.2.2])]
 cases p:aB l n with
 |none=>
  have ak:O=i.toList:=by
   rcases aH with rfl|⟨t,rfl⟩
   .exact u
   .simp only[hL,p,Option.isSome_none,cond_false]at u;exact u
  rw[ak]at af;obtain⟨Q,L⟩:=Cq n l i.toList B.toList 0 af p;have ah:(Instr.findKey K (.int k n) B.toList).run G.P w=.ok none w:=by simp[Instr.findKey,aV,Q]
  refine a6 (i.push (c b)) (dZ aQ sz enc l++[.sl aQ sz (row.map enc)]) (di k (l++[(n,row)])) (B.push ⟨.int k n,c b,W⟩) (W+1) ?_ ?_ ?_ ?_ ?_ ?_ ?_
  .rw[uZ row p];simp[dZ]
  .rw[uZ row p]
  .rcases h with h|h<;>simp[execOp,h,Instr.mapUpdate,C,X,D,a5,aG,aM,ah,aJ]
  .simp only[Array.toList_push];exact aF.push aT a3
  .simp only[Array.toList_push];exact L row ⟨.int k n,c b,W⟩ rfl
  .exact aI.push _ _
  .intro g f;simp only[Array.toList_push,List.filterMap_append,List.mem_append]at f;rcases f with f|f
   .exact .inl f
   .obtain⟨v,aC,aU⟩:=List.mem_filterMap.1 f;rw[List.mem_singleton.1 aC]at aU;exact .inr aU
 |some a=>
  obtain⟨bb,bi,Q,L,aj,am,ao⟩:=Cp n l O B.toList 0 a af p;have ah:(Instr.findKey K (.int k n) B.toList).run G.P w=.ok (some (0+eR l n,bb)) w:=by simp[Instr.findKey,aV,am]
  have bl:B[eR l n]?=some bi:=by simpa using L
  have bt:(Instr.keyThatStays (.int k n) (.int k n)).run G.P w=.ok (.int k n) w:=by simp[Instr.keyThatStays,Instr.sameBits]
  have ak:O.set (eR l n) (c b)=i.toList.set (eR l n) (c b):=by
   rcases aH with rfl|⟨t,rfl⟩
   .rw[show O=i.toList from u]
   .simp only[hL,p,Option.isSome_some,cond_true]at u;obtain⟨_,_,u⟩:=u;rw[u,List.set_set]
  have ey:(i.setIfInBounds (eR l n) (c b)).toList=i.toList.set (eR l n) (c b):=by simp
  have a0:=ao (c b) (λe=>{e with key:=.int k n,val:=c b}) (λe=>⟨rfl,rfl⟩);rw[ak]at a0;refine a6 (i.setIfInBounds (eR l n) (c b)) ((dZ aQ sz enc l).set (eR l n) (.sl aQ sz (row.map enc))) (di k l) (B.modify (eR l n) λe=>{e with key:=.int k n,val:=c b}) W ?_ ?_ ?_ ?_ ?_ ?_ ?_
  .rw[vc row p,vG]
  .rw[vc row p,Ef row p]
  .rcases h with h|h<;>simp[execOp,h,Instr.mapUpdate,C,X,D,a5,aG,aM,ah,aJ,bl,aj,bt]
  .rw[ey];exact aF.set aT λj v A _ bv aw=>a3 v A (List.mem_of_getElem? bv) aw
  .rw[ey];simpa using a0
  .exact aI.modify _ _ λ_=>rfl
  .intro g f;rw[ey]at f;exact Co f
end
end
section
section imms
variable {cx:c0}{I:aZ}{β:Nat->Value}{w:World}
def bc.GF{q:aZ}{d:Nat}{o:bY}(bp:bQ I q)(C:∀b∈cb (β d),∀o,q b o=I b o)(u:bc cx I β w d o):bc cx q β w d o:=u.tu bp rfl (eC.refl β) λb e=>⟨λ_=>rfl,C b e,id⟩
end imms
section weak
variable {G:bG}{env:ag}{σ:U}
def wU{I:aZ}{β c6:Nat->Value}{env:ag}{a:Act}{e:Nat}(h:gH I β env a)(d:env.clean [e].contains=true)(c:∀y,y≠e->c6 y=β y):gH I c6 env a:=λb=>
 oh (p:=[e].contains) (λf g=>c f (by simpa using g)) _ _ (atW d b) (h b)
theorem auu{d e K E:Nat}(l:σ.get d=some (.map K E []))(F:σ.get e=none)(hi:G.ids.contains e=false)(f:env.clean [e].contains=true)(s:σ.clean [e].contains=true):
  cu G env σ env ((e,.cE [])::(d,.dD K E e [] none none)::σ.minus [d]):=λcx I β Q w o u=>by
 have gD:d≠e:=λx=>by subst x;rw[F]at l;cases l
 have R:e∉G.ids:=by simpa using hi
 refine⟨I,e4 β e (.tuple #[]),?_,wU u f λa b=>e0 β _ b⟩;have g:e4 β e (.tuple #[]) e=.tuple #[]:=eH _ _ _;have z:e4 β e (.tuple #[]) d=β d:=e0 β _ gD
 have A:∀a,a∈[d,e]->∀c,U.get ((e,bY.cE [])::(d,.dD K E e [] none none)::σ.minus [d]) a=some c->(a=d/\c=.dD K E e [] none none)\/(a=e/\c=.cE []):=λa b c m=>by
  rw[ms]at m;split at m
  .grind
  .grind
 have j:∀a,a∈[d,e]->(U.get ((e,bY.cE [])::(d,.dD K E e [] none none)::σ.minus [d]) a).isSome->a=d\/a=e:=λa b _=>by simpa using b
 refine o.sU (M:=[d,e]) (news:=[e]) (λa b=>?_) (λa b=>e0 β _ (by simpa using b)) (λa b=>?_) (λa c _ i=>(atF s a c i).2) (λa b c i=>?_) (λa b h C f=>?_) (λa b N H B y h C f n=>?_)
 .simp only[List.mem_cons,List.not_mem_nil,or_false,not_or]at b;rw[ms,if_neg (Ne.symm b.2),if_neg (Ne.symm b.1),if_neg (by simp[b.1])]
 .grind
 .rcases A a b c i with⟨rfl,rfl⟩|⟨rfl,rfl⟩
  .have:=o.bO a _ l;simp only[bc,z,g]at this ⊢;rcases this with J|⟨L,k,D,q,r,O,p,v,t⟩
   .exact .inl J
   .refine .inr ⟨L,k,D,#[],[],q,r,rfl,rfl,?_,p,v,t,by simp⟩;have:k.toList=[]:=by cases P:k.toList<;>simp_all [dI]
    rw[this];exact⟨rfl,rfl⟩
  .simp only[bc,g];exact .inr ⟨#[],rfl,rfl⟩
 .rcases j a b h with rfl|rfl
  .grind
  .rw[g]at f;cases f
 .rcases j a b y with rfl|rfl
  .rcases j N H h with rfl|rfl
   .exact B rfl
   .rw[g]at n;cases n
  .rw[g]at f;cases f
variable {k:IntKind}{α:Type}
def avB{aQ sz:Nat}{K E d e e2 t:Nat}{bN:Bool}{c:Option (gl×Nat)}(l:List (Int×List α))(n:Int)(enc:α->List H)(row:List α)(r:(aB l n).isSome=true)
  (f:σ.get d=some (.dD K E e (di k l) (hL l n t) c)) (y:σ.get e=some (.cE (dZ aQ sz enc (gI l n)))) (g:σ.get t=some (.slice aQ sz (row.map enc) 0 bN))
  (o:σ.get e2=none) (p:G.ids.contains e2=false) (m:env.clean [e2].contains=true) (h:σ.clean [e2].contains=true) :
  cu G env σ env ((e2,.cE (dZ aQ sz enc (bM l n row)))::(d,.dD K E e2 (di k (bM l n row)) none c)::σ.minus [d,e,t]):=λcx I β z w v i=>by
 obtain⟨A,a⟩:=Option.isSome_iff_exists.1 r;have j:hL l n t=some (some (eR l n),t):=by simp[hL,a]
 rw[j]at f;obtain⟨s,x,b⟩:=v.back f rfl y g o (by simpa using p) h;refine⟨I,s,?_,wU i m x⟩;have u:(dZ aQ sz enc (gI l n)).set (eR l n) (.sl aQ sz (row.map enc))=dZ aQ sz enc (bM l n row):=by
  rw[zl a,vG,List.set_set,vc row a,vG]
 rw[u]at b;have q:di k (bM l n row)=di k l:=by rw[vc row a,Ef row a]
 rw[q];exact b
theorem gw.bn{cx:c0}{I O:aZ}{w:World}{T sz:Nat}{xs:List (List H)}{v:Value}(h:gw cx I w (.sl T sz xs) v)(bp:bQ I O)(ao:∀b,bK v=some b->∀o,O b o=eA w b o):aS O (.bn false xs) v:=by
 rcases h with⟨rfl,rfl⟩|⟨b,aM,arr,rfl,X,am,aj,aC,aD,aE,aG,aF⟩
 .simp only[aS];exact⟨none,0,rfl,by simp,by simp[maxLen],by simp,.inl trivial⟩
 .simp only[aS];refine⟨_,aM,rfl,X,am,by simp,.inr ⟨b,0,rfl,?_⟩⟩;have aq:∀o:Nat,O b o=arr[o]?:=λo=>by rw[ao b rfl o];simp[eA,World.cell?,aj]
  have key:∀(C:List (List H)) (off:Nat) (q:cR),(∀e∈C,e.length=sz)->bJ I C.flatten q->(∀j,j<q.length->arr[off+j]?=q[j]?)->eZ O b C off:=by
   intro C;induction C with
   |nil=>intro _ _ _ _ _;simp[eZ]
   |cons y C an=>
    intro off q ak af ai;simp only[List.flatten_cons]at af;have row:∀(cs:List H) (o:Nat) (Q:List H) (q:cR),bJ I (cs++Q) q->(∀j,j<q.length->arr[o+j]?=q[j]?)->gE O b cs o/\∃u,bJ I Q u/\q=q.take cs.length++u/\u=q.drop cs.length:=by
     intro cs;induction cs with
     |nil=>intro o Q q h _;exact⟨by simp[gE],q,h,by simp,by simp⟩
     |cons c cs au=>
      intro o Q q h S;simp only[List.cons_append,bJ]at h;obtain⟨ae,av,rfl,aw,X⟩:=h
      obtain⟨Z,u,Y,ah,ab⟩:=au (o+1) Q av X λj ar=>by
       have:=S (j+1) (by simpa using ar);simpa [Nat.add_assoc,Nat.add_comm 1]using this
      refine⟨?_,u,Y,by simpa using ah,by simpa using ab⟩;simp only[gE];refine⟨⟨ae,?_,hl bp c ae aw⟩,Z⟩;rw[aq];simpa using S 0 (by simp)
    obtain⟨Z,u,Y,ah,ab⟩:=row y off C.flatten q af ai;simp only[eZ];refine⟨Z,an (off+y.length) u (λe ax=>ak e (List.mem_cons_of_mem _ ax)) Y λj S=>?_⟩;subst ab;have:=ai (y.length+j) (by simp at S;omega);rw[List.getElem?_drop,<-this,Nat.add_assoc]
  grind
theorem DU{cx:c0}{I c:aZ}{w:World}{α:Type}{k:IntKind}{T sz:Nat}{enc:α->List H}(bp:bQ I c):∀(l:List (Int×List α)) (vs:cR) (es:iq),gv I (di k l) vs es->fE cx I w (dZ T sz enc l) vs->(∀b∈vs.filterMap bK,∀o,c b o=eA w b o)->
  dI c (bo k (λf=>.bn false (f.map enc)) l) es
 |[],vs,es,h,_,_=>by
  simp only[di,List.map_nil,gv]at h;rw[h.2];simp[bo,dI]
 |(n,f)::l,vs,es,h,a,d=>by
  simp only[di,List.map_cons,gv]at h;obtain⟨x,i,s,e,rfl,rfl,m,j,g⟩:=h;simp only[dZ,List.map_cons,fE]at a;obtain⟨u,v,r,p,t,q⟩:=a;cases r;simp only[bo,List.map_cons,dI];refine⟨s,e,rfl,hl bp _ _ m,?_,DU bp l i e g q λb a=>d b ?_⟩
  .rw[j];exact gw.bn p bp λb a=>d b (by simp[a])
  .grind
theorem auv{aQ sz:Nat}{K E d e:Nat}{W:Option (gl×Nat)}(l:List (Int×List α))(enc:α->List H)
  (t:σ.get d=some (.dD K E e (di k l) none W)) (q:σ.get e=some (.cE (dZ aQ sz enc l))) :
  cu G env σ env ((d,.ic K E (bo k (λm=>.bn false (m.map enc)) l))::σ.minus [d,e]):=λcx I β ai w h S=>by
 have gD:d≠e:=λT=>by subst T;rw[t]at q;cases q
 have A:(σ.get d).isSome:=by rw[t];rfl
 have Y:(σ.get e).isSome:=by rw[q];rfl
 let r:aZ:=λa b=>if a∈cb (β d)\/a∈cb (β e)then eA w a b else I a b
 have o:∀a,a∈cb (β d)\/a∈cb (β e)->∀b,r a b=eA w a b:=λa c b=>if_pos c;have s:∀a,¬(a∈cb (β d)\/a∈cb (β e))->∀b,r a b=I a b:=λa c b=>if_neg c
 have bp:bQ I r:=λa b n i=>by
  by_cases c:a∈cb (β d)\/a∈cb (β e)
  .rw[o a c];exact h.AF a b n i
  .grind
 have X:∀a,a∈cb (β d)\/a∈cb (β e)->Place cx a:=λa c=>by
  rcases c with c|c
  .exact(h.sK t c).2
  .exact(h.sK q c).2
 have L:∀f b,U.get ((d,.ic K E (bo k (λm=>.bn false (m.map enc)) l))::σ.minus [d,e]) f=some b->(f=d/\b=.ic K E (bo k (λm=>.bn false (m.map enc)) l))\/(f≠d/\f≠e/\σ.get f=some b):=λf b g=>by
  rw[atw,atE]at g;split at g
  .grind
  .grind
 have C:∀f,(U.get ((d,bY.ic K E (bo k (λm=>.bn false (m.map enc)) l))::σ.minus [d,e]) f).isSome->(σ.get f).isSome:=λf g=>by
  obtain⟨b,g⟩:=Option.isSome_iff_exists.1 g;rcases L f b g with⟨rfl,_⟩|⟨_,_,g⟩
  .exact A
  .rw[g];rfl
 refine⟨r,β,{h with good:=λa b n i=>?_,er:=λa n i=>?_,e8:=h.e8.trans bp,eW:=λa c D b=>?_,bO:=λf b g=>?_,cq:=λf M g P=>h.cq f M (C f g) (C M P)},S.mono bp (eC.refl β)⟩
 .by_cases c:a∈cb (β d)\/a∈cb (β e)
  .rw[o a c]at i;exact r0 a b n i
  .rw[s a c]at i;exact h.good a b n i
 .by_cases c:a∈cb (β d)\/a∈cb (β e)
  .rw[o a c]at i;exact rW a n i
  .rw[s a c]at i;exact h.er a n i
 .have:¬(a∈cb (β d)\/a∈cb (β e)):=λp=>by
   rcases X a p with j|j
   .omega
   .exact D j
  rw[s a this];exact h.eW a c D b
 .rcases L f b g with⟨rfl,rfl⟩|⟨Z,ab,g⟩
  .have B:=h.bO f _ t;simp only[bc]at B ⊢;rcases B with j|⟨J,F,ae,x,R,u,O,v,N,y,af,Q,V,_⟩
   .exact .inl j
   .rw[show R=x.toList from N]at y;have z:=h.bO e _ q;simp only[bc,v,Value.tuple.injEq,reduceCtorEq,false_or]at z;obtain⟨ah,rfl,c⟩:=z;refine .inr ⟨J,F,ae,u,?_,DU bp l x.toList F.toList y c λa p=>o a (.inr (by rw[v,jl];exact p)),Q,V⟩;rw[o J (.inl (g4 (by rw[u];rfl)))];simp[eA,O]
  .refine(h.bO f b g).GF bp λa c=>s a λp=>?_;rcases p with j|j
   .exact h.cq f d (by rw[g];rfl) A Z a c j
   .exact h.cq f e (by rw[g];rfl) Y ab a c j
def auJ{c:Code}{Q:Exit->ag->U->Prop}{ι:Type}{cC:ι->ag}{σ2:ι->U}(h:∀cx I β a w,bx G cx I β σ w->gH I β env a->∃i b β',bx G cx b β' (σ2 i) w/\gH b β' (cC i) a)(k:∀i,aq G c Q (cC i) (σ2 i)):aq G c Q env σ:=
 atQ λcx a w g=>by
  obtain⟨I,β,m,f,j,e⟩:=g;obtain⟨i,b,β',d,l⟩:=h cx I β a w m f;exact(k i).use cx a w ⟨b,β',d,l,j,e⟩
theorem vl{d:Nat}{o c:bY}(k:σ.get d=some o){cx:c0}{I:aZ}{β:Nat->Value}{w:World}(h:bx G cx I β σ w)(j:bc cx I β w d c):bx G cx I β (σ.set d c) w:=by
 have e:∀b,(U.get (σ.set d c) b).isSome->(σ.get b).isSome:=λb a=>by
  rw[atC]at a;split at a
  .grind
  .exact a
 refine{h with bO:=λb i a=>?_,cq:=λb f a g=>h.cq b f (e b a) (e f g)};rw[atC]at a;split at a
 .grind
 .exact h.bO b i a
variable {bD:List (H×H)}
def auG{c:Code}{Q:Exit->ag->U->Prop}{d K E:Nat}(e:σ.get d=some (.map K E bD))(k:∀es clock,aq G c Q env (σ.set d (.eV es clock K E bD))):aq G c Q env σ:=
 auJ (ι:=gl×Nat) (cC:=λ_=>env) (σ2:=λa=>σ.set d (.eV a.1 a.2 K E bD)) (λcx I β p w b f=>by
  have:=b.bO d _ e;simp only[bc]at this;rcases this with n|⟨o,es,clock,h,i,j,g,m,l⟩
  .exact⟨(#[],0),I,β,vl e b (by simp only[bc];exact .inl n),f⟩
  .exact⟨(es,clock),I,β,vl e b (by simp only[bc];exact .inr ⟨o,h,i,j,g,m,l⟩),f⟩) λa=>k a.1 a.2
theorem auw{d K E clock:Nat}{es:gl}(b:σ.get d=some (.eV es clock K E bD)):cu G env σ env (σ.set d (.map K E bD)):=λcx I β l w a c=>by
 refine⟨I,β,vl b a ?_,c⟩;have:=a.bO d _ b;simp only[bc]at this ⊢;rcases this with e|⟨m,g,h,i,f,k,j⟩
 .exact .inl e
 .grind
def A.RL{c:Code}{Q:Exit->ag->U->Prop}{d K E e:Nat}{keys:List H}{q:Option (hD×Nat)}(hd:σ.get d=some (.dD K E e keys q none))(k:∀es clock,aq G c Q env (σ.set d (.dD K E e keys q (some (es,clock))))):aq G c Q env σ:=
 auJ (ι:=gl×Nat) (cC:=λ_=>env) (σ2:=λi=>σ.set d (.dD K E e keys q (some i))) (λcx I β a w h u=>by
  have:=h.bO d _ hd;simp only[bc]at this;rcases this with C|⟨r,es,clock,ab,ah,S,X,Z,O,ai,af,ae,aj,_⟩
  .exact⟨(#[],0),I,β,vl hd h (by simp only[bc];exact .inl C),u⟩
  .exact⟨(es,clock),I,β,vl hd h (by simp only[bc];exact .inr ⟨r,es,clock,ab,ah,S,X,Z,O,ai,af,ae,aj,λC Y=>(Option.some.inj Y).symm⟩),u⟩) λi=>k i.1 i.2
end weak
end
section
open Go.ChangeMaps (setBlock)
def fL{α S:Type}(B:Int->α->S->Option S):List (Int×α)->S->Option S
 |[],s=>some s
 |p::r,s=>match B p.1 p.2 s with|none=>none|some a=>fL B r a
open Classical in
noncomputable def ou{α S:Type}(l:List (Int×α))(B:Int->α->S->Option S)(s:S):Option S:=
 if ∀a:List (Int×α),a.Perm l->fL B a s=fL B l s then fL B l s else none
theorem yA{α S:Type}{l:List (Int×α)}{B:Int->α->S->Option S}{s r:S}(h:ou l B s=some r):(∀a:List (Int×α),a.Perm l->fL B a s=fL B l s)/\fL B l s=some r:=by
 unfold ou at h
 grind
theorem DV{α S:Type}{l:List (Int×α)}{B:Int->α->S->Option S}{s r:S}(h:∀a:List (Int×α),a.Perm l->fL B a s=some r):ou l B s=some r:=by
 unfold ou
 simp_all
def Cj{α S:Type}{B:Int->α->S->Option S}:∀(l a:List (Int×α)) (s:S),fL B (l++a) s=(fL B l s).bind (fL B a)
 |[],_,_=>rfl
 |p::r,a,s=>by
  simp only[List.cons_append,fL];cases B p.1 p.2 s with
  |none=>rfl
  |some b=>exact Cj r a b
section
variable {G:bG}{σ:U}{o:Oper}{ev:Operand->H}
def bY.nc:bY->Option (gl×Nat)
 |.eV es c _ _ _=>some (es,c)
 |.dD _ _ _ _ _ q=>q
 |_=>none
variable {I:aZ}{Xz:bY}{b1 clock:Nat}{cx:c0}{es:gl}{w:World}{β:Nat->Value}
theorem we(e:bx G cx I β σ w)(f:σ.get b1=some Xz)(c:Xz.nc=some (es,clock))(b:β b1≠.nilFunc):
  ∃a,β b1=.map (some a)/\w.heap[a]?=some (.map es clock)/\gQ es clock:=by
 have d:=e.bO b1 Xz f;cases Xz<;>simp only[bY.nc,reduceCtorEq]at c
 .cases c;simp only[bc,b,false_or]at d
  grind
 .simp only[bc,b,false_or]at d
  grind
def D.range{T b1 cG K E clock:Nat}{x:Operand}{es:gl}{Xz:bY}(h:o.op=.range T x)(q:ev x=.b6 b1)(hd:σ.get b1=some Xz)(ax:Xz.nc=some (es,clock))(av:G.P.underlying T=some (.map K E))
  (hi:G.ids.contains cG=false) (X:σ.clean [cG].contains=true):eB G o ev σ [cG] [cG] (λr ao=>r=.ptr cG 0/\ao=(cG,.iter b1 clock clock #[])::σ):=by
 intro cx I β w am u an;have O:=an x (by simp[h,Op.operands]);rw[q]at O
 simp only[au]at O;obtain⟨O,ai⟩:=O;have ar:β b1≠.nilFunc:=λe=>by rw[O,e]at ai;simp[jd]at ai
 obtain⟨S,Z,aj,aC⟩:=we u hd ax ar
 have aw:b1≠cG:=λe=>by
  have:=(atF X b1 Xz hd).1;simp[e]at this
 have aq:(execOp am o).run G.P w=.ok (.value (.pointer (some ⟨w.heap.size,0,none⟩))) (w.alloc (.mapIter (some S) clock #[] clock)):=by
  simp[execOp,h,O,Z,run_range_map w T K E S es clock av aj]
 rw[aq];have ae:=u.mq (cA:=[cG]) (σ2:=σ) (env:=[]) ⟨λ_ _=>rfl,by simpa using hi,rfl,X,λx q b1 n h=>by have:=(atF X x _ h).1;rw[List.contains_iff_mem.2 q]at this;cases this⟩;have ab:∀y,y≠cG->e4 (fo β [cG]) cG (.pointer (some ⟨w.heap.size,0,none⟩)) y=β y:=λy C=>by rw[e0 _ _ C];simp[fo,C]
 have Y:e4 (fo β [cG]) cG (.pointer (some ⟨w.heap.size,0,none⟩)) cG=.pointer (some ⟨w.heap.size,0,none⟩):=eH _ _ _;refine⟨.ptr cG 0,_,I,e4 (fo β [cG]) cG (.pointer (some ⟨w.heap.size,0,none⟩)),⟨rfl,rfl⟩,?_,?_,bQ.refl I,λy C=>ab y (by simpa using C),λy C=>by rw[atw,if_neg (Ne.symm (by simpa using C))]⟩
 .simp only[au,Y];exact⟨w.heap.size,rfl,rfl⟩
 .refine ae.turn (d:=cG) (eD.alloc w _) (.inl u.size) (λx q=>by rw[atw,if_neg (Ne.symm q)]) (λx q Q e=>by
    obtain⟨ak,Q⟩:=Option.isSome_iff_exists.1 Q;exact absurd (ae.nr Q e) (by omega)) (bQ.refl I) (λ_ _ _=>rfl) (λaE aD ah=>by rw[u.gu (Nat.le_refl _)]at ah;cases ah) (u.gu (Nat.le_refl _) none)
   (λx q=>e0 _ _ q) (.inl (by simpa using hi)) (at7 (by simp[fo])) (.inl (by rw[Y];rfl)) λak af=>?_
  rw[atw,if_pos rfl]at af;cases af;simp only[bc,Y,ab b1 aw,Z];exact .inr ⟨w.heap.size,S,rfl,rfl,heap_alloc_new w _,λo=>u.gu (Nat.le_refl _) o,.inl u.size⟩
theorem D.next{b1 cG clock:Nat}{x:Operand}{es:gl}{seen:iL}{Xz:bY}(h:o.op=.next x false)(C:ev x=.ptr cG 0)(hi:σ.get cG=some (.iter b1 clock clock seen))(hd:σ.get b1=some Xz)(aM:Xz.nc=some (es,clock)):
  eB G o ev σ [cG] [] (λr ak=>((leftOf es seen).size=0/\r=.bP [.bool false]/\ak=σ)\/∃e∈(leftOf es seen).toList,r=.bP [.bool true,.c7,.c7]/\ak=σ.set cG (.iter b1 clock clock (seen.push e.born))):=by
 intro cx I β w af O aq;have q:=aq x (by simp[h,Op.operands]);rw[C]at q
 simp only[au]at q;obtain⟨b,q,ai⟩:=q;have aF:β cG≠.nilFunc:=λe=>by rw[e]at q;cases q
 have an:=O.bO cG _ hi;simp only[bc,aF,false_or]at an;obtain⟨r,aI,ao,Q,ah,ae,aC⟩:=an;have aJ:b=r:=by rw[ao]at q;simpa [bK]using q.symm
 subst aJ;have aH:β b1≠.nilFunc:=λe=>by rw[e]at Q;cases Q
 obtain⟨u,ax,aw,aG⟩:=we O hd aM aH;have:u=aI:=by rw[ax]at Q;simpa [bK]using Q
 subst this;rcases run_next_at (P:=G.P) w o.type b u clock clock seen es clock ah aw aG.2 (Nat.le_refl _)with⟨ab,X⟩|⟨e,ab,Y,X,s3⟩
 .have Z:(execOp af o).run G.P w=.ok (.value (.tuple #[.bool false])) w:=by simp[execOp,h,ai,X]
  rw[Z];refine⟨.bP [.bool false],σ,I,β,.inl ⟨ab,rfl,rfl⟩,?_,O,bQ.refl I,λ_ _=>rfl,λ_ _=>rfl⟩;simp[au,br,aS]
 .have Z:(execOp af o).run G.P w=.ok (.value (.tuple #[.bool true,e.key,e.val])) (setBlock Y b (.mapIter (some u) clock (seen.push e.born) clock)):=by simp[execOp,h,ai,s3]
  rw[Z];refine⟨.bP [.bool true,.c7,.c7],σ.set cG (.iter b1 clock clock (seen.push e.born)),I,β,.inr ⟨e,ab,rfl,rfl⟩,?_,?_,bQ.refl I,λ_ _=>rfl,λy av=>by rw[atC,if_neg (by simpa using av)]⟩
  .simp only[au,br,aS]
   grind
  .have aQ:eD w (setBlock Y b (.mapIter (some u) clock (seen.push e.born) clock)) b:=by
    rcases X with rfl|rfl
    .exact atU _ b _
    .exact eD.drew (atU _ b _)
   have am:bK (β cG)=some b:=q;have aU:(setBlock Y b (.mapIter (some u) clock (seen.push e.born) clock)).heap[b]?=some (.mapIter (some u) clock (seen.push e.born) clock):=by
    have aD:=fv ah;have:Y.heap=w.heap:=by rcases X with rfl|rfl<;>rfl
    simp[setBlock,this,Array.getElem?_setIfInBounds,aD]
   refine O.turn (d:=cG) aQ aC (λx C=>by rw[atC,if_neg C]) (λx C ar aE=>O.cq x cG ar (by rw[hi];rfl) C b aE (g4 am)) (bQ.refl I) (λ_ _ _=>rfl)
    (λo v aj=>by rw[ae o]at aj;cases aj) (ae none) (λ_ _=>rfl) (.inr rfl) (eC.refl β) (.inl am) λaT S=>?_
   rw[atC,if_pos rfl,hi]at S;injection S with S
   subst S;simp only[bc]
   grind
def Eg{I:aZ}:∀{d:List (H×H)} {es:iq} {i:Nat} {a c:H} {e:MapEntry},dI I d es->d[i]?=some (a,c)->es[i]?=some e->aS I a e.key/\aS I c e.val
 |[],_,i,_,_,_,_,h,_=>by simp at h
 |(k,v)::r,_,i,a,c,e,h,b,he=>by
  simp only[dI]at h;obtain⟨m,l,rfl,j,f,g⟩:=h;cases i with
  |zero=>simp at b he;obtain⟨rfl,rfl⟩:=b;subst he;exact⟨j,f⟩
  |succ i=>simp at b he;exact Eg g b he
def DW{I:aZ}:∀{ks:List H} {vs:cR} {es:iq} {i:Nat} {a:H} {e:MapEntry},gv I ks vs es->ks[i]?=some a->es[i]?=some e->aS I a e.key
 |[],_,_,i,_,_,_,h,_=>by simp at h
 |k::r,_,_,i,a,e,h,b,he=>by
  simp only[gv]at h;obtain⟨m,f,j,l,rfl,rfl,d,g,c⟩:=h;cases i with
  |zero=>simp at b he;subst b;subst he;exact d
  |succ i=>simp at b he;exact DW c b he
variable {cG i:Nat}
theorem DX{d:Operand->Value}{x:Operand}{seen:iL}{e:MapEntry}(f:bx G cx I β σ w)(h:o.op=.entry x)(a:au I β (.ptr cG 0) (d x))
  (hi:σ.get cG=some (.iter b1 clock clock (seen.push e.born))) (z:σ.get b1=some Xz) (y:Xz.nc=some (es,clock)) (D:es[i]?=some e):(execOp d o).run G.P w=.ok (.value (.tuple #[e.key,e.val])) w/\β b1≠.nilFunc:=by
 simp only[au]at a;obtain⟨b,a,n⟩:=a;have r:β cG≠.nilFunc:=λe=>by rw[e]at a;cases a
 have k:=f.bO cG _ hi;simp only[bc,r,false_or]at k;obtain⟨A,t,l,c,m,B,C⟩:=k;have v:b=A:=by rw[l]at a;simpa [bK]using a.symm
 subst v;have g:β b1≠.nilFunc:=λe=>by rw[e]at c;cases c
 obtain⟨j,q,p,s⟩:=we f z y g;have:j=t:=by rw[q]at c;simpa [bK]using c
 subst this;have u:e∈es.toList:=by grind
 exact⟨by simp[execOp,h,n,run_entry_at (P:=G.P) w b j clock seen es clock e m p u s.1],g⟩
variable {E K:Nat}{k:IntKind}{α:Type}
def au4{x:Operand}{seen:iL}{e:MapEntry}{n:Int}{v:α}(l:List (Int×α))(enc:α->H)(h:o.op=.entry x)(r:ev x=.ptr cG 0)(hi:σ.get cG=some (.iter b1 clock clock (seen.push e.born)))
  (A:σ.get b1=some (.eV es clock K E (bo k enc l))) (m:es[i]?=some e) (z:l[i]?=some (n,v)):Yields G o ev σ [] [cG,b1] (.bP [.int k n,enc v]):=
 .pure λs cx I β w F f d q=>by
  have j:=q x (by simp[h,Op.operands]);rw[r]at j
  have g:s.get b1=some (.eV es clock K E (bo k enc l)):=by rw[f b1 (by simp)];exact A
  obtain⟨t,u⟩:=DX d h j (by rw[f cG (by simp)];exact hi) g rfl m;refine⟨_,t,?_⟩;have b:=d.bO b1 _ g;simp only[bc,u,false_or]at b;obtain⟨J,C,D,p,_⟩:=b;obtain⟨B,y⟩:=Eg p (i:=i) (a:=.int k n) (c:=enc v) (e:=e) (by simp[bo,z]) (by simpa using m);simp only[au,br];exact⟨_,rfl,e.key,[e.val],rfl,B,e.val,[],rfl,aS.rep β _ _ y,rfl⟩
def au5{j:Nat}{g:Option (hD×Nat)}{x:Operand}{seen:iL}{e:MapEntry}{n:Int}(l:List (Int×α))(h:o.op=.entry x)(s:ev x=.ptr cG 0)(hi:σ.get cG=some (.iter b1 clock clock (seen.push e.born)))
  (B:σ.get b1=some (.dD K E j (di k l) g (some (es,clock)))) (q:es[i]?=some e) (m:(l.map (·.1))[i]?=some n):Yields G o ev σ [] [cG,b1] (.bP [.int k n,.c7]):=
 .pure λt cx I β w J d c r=>by
  have p:=r x (by simp[h,Op.operands]);rw[s]at p
  have f:t.get b1=some (.dD K E j (di k l) g (some (es,clock))):=by rw[d b1 (by simp)];exact B
  obtain⟨y,z⟩:=DX c h p (by rw[d cG (by simp)];exact hi) f rfl q;refine⟨_,y,?_⟩;have b:=c.bO b1 _ f;simp only[bc,z,false_or]at b;obtain⟨U,R,S,M,P,F,H,L,D,v,O,N,Q,A⟩:=b;cases A _ rfl;have C:=DW v (i:=i) (a:=.int k n) (e:=e) (by
   simp only[List.getElem?_map,Option.map_eq_some_iff]at m;obtain⟨T,u,rfl⟩:=m;simp[di,u]) (by simpa using q)
  simp only[au,br];exact⟨_,rfl,e.key,[e.val],rfl,C,e.val,[],rfl,trivial,rfl⟩
def h4{α:Type}(l:List (Int×α))(n:Int):List (Int×α):=match l with
 |[]=>[]
 |p::r=>if p.1=n then r else p::h4 r n
theorem CD{I:aZ}{α:Type}{k:IntKind}{enc:α->H}(n:Int):∀(l:List (Int×α)) (es:iq) (i:Nat) (a:α),dI I (bo k enc l) es->aB l n=some a->
  ∃j v,Instr.findNow (.int k) (.int k n) es i=some (some (i+j,v))/\j<es.length/\dI I (bo k enc (h4 l n)) (es.eraseIdx j)
 |[],es,i,a,h,c=>by simp[aB]at c
 |(m,b)::r,es,i,a,h,c=>by
  simp only[bo,List.map_cons,dI]at h;obtain⟨g,o,rfl,d,q,f⟩:=h;simp only[aS]at d;rw[gB]at c;by_cases e:m=n
  .subst e;refine⟨0,g.val,by simp[Instr.findNow,Instr.sameNow,d],by simp,?_⟩;simp only[h4,if_true,List.eraseIdx_cons_zero];exact f
  .rw[if_neg e]at c;obtain⟨j,v,t,p,s⟩:=CD n r o (i+1) a f c;refine⟨j+1,v,?_,by simpa using p,?_⟩
   .simp only[Instr.findNow,Instr.sameNow,d,if_pos]
    grind
   .simp only[h4,e,if_false,List.eraseIdx_cons_succ,bo,List.map_cons,dI];exact⟨g,_,rfl,by simp only[aS];exact d,q,s⟩
def DY{α:Type}:∀{l:List (Int×α)} {n:Int},aB l n=none->h4 l n=l
 |[],_,_=>rfl
 |p::r,n,h=>by
  rw[gB]at h;split at h
  .cases h
  .rename_i a;simp only[h4,if_neg a,DY h]
theorem gQ.erase(h:gQ es clock)(j:Nat):gQ (es.eraseIdxIfInBounds j) clock:=by
 obtain⟨C,q⟩:=h;have e:(es.eraseIdxIfInBounds j).toList=es.toList.eraseIdx j:=by simp
 refine⟨?_,λx u=>q x ?_⟩
 all_goals grind
def D.Kx{T d:Nat}{x y:Operand}{n:Int}(l:List (Int×α))(enc:α->H)(h:o.op=.call ⟨.builtin .delete,#[x,y],#[T,K]⟩)(q:ev x=.b6 d)(aH:ev y=.int k n)
  (hd:σ.get d=some (.map K E (bo k enc l))) (ah:fZ G.P T K E k) :
  eB G o ev σ [d] [] (λr aI=>r=.bP []/\aI=σ.set d (.map K E (bo k enc (h4 l n)))):=by
 intro cx I β w aF ab aj;have aD:=aj x (by simp[h,Op.operands,Call.operands]);rw[q]at aD
 have u:=aj y (by simp[h,Op.operands,Call.operands]);rw[aH]at u;have u:=fB u
 obtain⟨r,es,clock,aw,ai,X,Z,S,ao,am⟩:=zc ab hd aD;have ax:∀w,(underlying T).run G.P w=.ok (.map K E) w:=λw=>by simp[underlying,program,Sem.run,ah.en]
 have aC:∀w,(underlying K).run G.P w=.ok (.int k) w:=λw=>by simp[underlying,program,Sem.run,ah.key]
 have an:=rP (P:=G.P) X;have av:=uA (P:=G.P) ah.key (es.isEmpty) n w;have ar:∀O:Obj,(setObj r O).run G.P w=.ok () {w with heap:=w.heap.setIfInBounds r O}:=λO=>by simp[setObj,Sem.run,X]
 have aV:∃C,(execOp aF o).run G.P w=.ok (.value (.tuple #[])) {w with heap:=w.heap.setIfInBounds r (.map C clock)}/\dI I (bo k enc (h4 l n)) C.toList/\gQ C clock:=by
  cases Y:aB l n with
  |none=>
   obtain⟨ae,aJ⟩:=yx n l es.toList 0 Z Y;have af:(Instr.findKey K (.int k n) es.toList).run G.P w=.ok none w:=by simp[Instr.findKey,aC,ae]
   refine⟨es,by simp[execOp,h,resolve,invoke,builtin,Builtin.delete_,aw,u,ax,an,av,af,ar],?_,am⟩;rw[DY Y];exact Z
  |some a=>
   obtain⟨j,aE,ae,aJ,aT⟩:=CD n l es.toList 0 a Z Y;have af:(Instr.findKey K (.int k n) es.toList).run G.P w=.ok (some (0+j,aE)) w:=by simp[Instr.findKey,aC,ae]
   refine⟨es.eraseIdxIfInBounds j,by simp[execOp,h,resolve,invoke,builtin,Builtin.delete_,aw,u,ax,an,av,af,ar],?_,am.erase j⟩;simpa using aT
 obtain⟨C,aQ,aU,aM⟩:=aV;rw[aQ];refine⟨.bP [],_,I,β,⟨rfl,rfl⟩,by simp[au,br],?_,bQ.refl I,λ_ _=>rfl,λx q=>by rw[atC,if_neg (by simpa using q)]⟩;have aq:bK (β d)=some r:=by rw[ai];rfl
 refine ab.turn (d:=d) (atU w r _) ao (λx q=>by rw[atC,if_neg q]) (λx q aG e=>ab.cq x d aG (by rw[hd];rfl) q r e (g4 aq)) (bQ.refl I) (λ_ _ _=>rfl)
  (λo v ak=>by rw[S o]at ak;cases ak) (S none) (λ_ _=>rfl) (.inr rfl) (eC.refl β) (.inl aq) λO Q=>?_
 rw[atC,if_pos rfl,hd]at Q;injection Q with Q
 subst Q;simp only[bc];exact .inr ⟨r,C,clock,ai,by have:=fv X;simp[Array.getElem?_setIfInBounds,this],aU,S,ao,aM⟩
variable {env:ag}
def A.s4{c:Code}{Q:Exit->ag->U->Prop}{F:Prop}(h:∀cx I β a w,bx G cx I β σ w->gH I β env a->F)(k:F->aq G c Q env σ):aq G c Q env σ:=
 atQ λcx a w O=>by
  obtain⟨I,β,u,q,S,C⟩:=O;exact(k (h cx I β a w u q)).use cx a w ⟨I,β,u,q,S,C⟩
def jc{a α:Type}(l:List (a×α))(p:cr):List (a×α):=p.filterMap λi=>l[i]?
theorem DZ{c:Type}(l:List (c×α)):jc l (List.range l.length)=l:=by
 have:∀(a:Nat),a<=l.length->jc l (List.range a)=l.take a:=by
  intro a;induction a with
  |zero=>intro _;simp[jc]
  |succ a b=>
   intro d;rw[List.range_succ];simp only[jc,List.filterMap_append,List.filterMap_cons,List.filterMap_nil]at b ⊢;rw[b (by omega),List.getElem?_eq_getElem (by omega)];simp only;rw[List.take_succ,List.getElem?_eq_getElem (by omega)];rfl
 grind
def C6{p:cr}{n:Nat}(b:p.Nodup)(a:∀i,i∈p↔i<n):p.Perm (List.range n):=
 (List.perm_ext_iff_of_nodup b List.nodup_range).2 λi=>by rw[List.mem_range];exact a i
variable {S:Type}{B:Int->α->S->Option S}{Ys:S}{b id it t1 t2:Nat}{l:List (Int×α)}
theorem auH{Q:Exit->ag->U->Prop}(m:∀E:List (Int×α),E.Perm l->∃r,fL B E Ys=some r){o q:Oper}{y:Code}
  (C:S->Prop) (h:S->ag) (k:iL->S->U) (M:o.op=.next (.tmp it) false/\o.dst=some t1/\o.guard=none) (Z:q.op=.extract (.tmp t1) 0/\q.dst=some t2/\q.guard=none) (bA:qw G.N #[o,q]=true)
  (bs:C Ys) (bl:∀n v g d,B n v g=some d->C g->C d) (aE:∀g,(h g).get it=.ptr cG 0) (aI:∀seen g,(k seen g).get cG=some (.iter b1 clock clock seen)) (ey:∀seen g,∃Xz,(k seen g).get b1=some Xz/\Xz.nc=some (es,clock))
  (a3:∀seen g aj,(k seen g).set cG (.iter b1 clock clock aj)=k aj g) (aW:∀seen g,C g->∀cx I β w,bx G cx I β (k seen g) w->β b1≠.nilFunc->es.size=l.length)
  (aU:cu G env σ (h Ys) (k #[] Ys))
  (br:∀(seen:iL) (e:MapEntry) (i:Nat) (n:Int) (v:α) (g d:S),es[i]?=some e->l[i]?=some (n,v)->C g->B n v g=some d->
   aq G y (kE (λao p=>cu G ao p (h d) (k (seen.push e.born) d)) Q) ((t2,.bool true)::(t1,.bP [.bool true,.c7,.c7])::h g) (k (seen.push e.born) g))
  (out:∀seen r E,E.Perm l->fL B E Ys=some r->Q (.exit b) ((t2,.bool false)::(t1,.bP [.bool false])::h r) (k seen r)) :
  aq G (.loop (.seq (.region id #[o,q] false) (.seq (.cond (.tmp t2) .skip (.exit b)) y))) Q env σ:=by
 refine A.loop (α:=iL×S) (λs=>h s.2) (λs=>k s.1 s.2) (λs=>C s.2/\∃c:cr,c.Nodup/\(∀i∈c,i<l.length)/\(∀(i:Nat) (e:MapEntry),es[i]?=some e->(s.1.contains e.born=true↔i∈c))/\fL B (jc l c) Ys=some s.2)
  (λs=>(leftOf es s.1).size) (#[],Ys) ⟨bs,[],List.nodup_nil,by simp,by simp,rfl⟩ aU ?_
 rintro⟨seen,g⟩ ⟨ab,c,aX,ai,W,aw⟩;refine A.s4 (F:=es.size=l.length/\(es.toList.map (·.born)).Nodup) (λcx I β a6 w X a7=>?_) λ⟨f1,f2⟩=>?_
 .have z:=a7 it;rw[show(h (seen,g).2).get it=.ptr cG 0 from aE g]at z;simp only[au]at z;obtain⟨b,z,_⟩:=z;have a0:β cG≠.nilFunc:=λe=>by rw[e]at z;cases z
  have ah:=X.bO cG _ (aI seen g);simp only[bc,a0,false_or]at ah;obtain⟨r,bK,bD,af,_⟩:=ah;have av:β b1≠.nilFunc:=λe=>by rw[e]at af;cases af
  obtain⟨Xz,ae,V⟩:=ey seen g;obtain⟨_,_,_,bB⟩:=we X ae V av;exact⟨aW seen g ab cx I β w X av,bB.1⟩
 obtain⟨Xz,ae,V⟩:=ey seen g;have bi:ag.get ((t2,.bool true)::(t1,.bP [.bool true,.c7,.c7])::h g) t2=.bool true:=by rw[atK,if_pos rfl]
 have bj:ag.get ((t2,.bool false)::(t1,.bP [.bool false])::h g) t2=.bool false:=by rw[atK,if_pos rfl]
 refine A.seq (A.region bA ?_);show gh G #[o,q] ⟨false,[],[]⟩ [] [0,1] (h g) (k seen g) _;refine⟨o,rfl,.inr (.inr (.inl ⟨by simp only[fK,M.2.2],by simp,[cG],[],_,D.next (x:=.tmp it) M.1 (aE g) (aI seen g) ae V,by simp,at5 _,by simp,λbT p a8=>?_⟩))⟩
 have ext:∀(P:List H) (L:Bool) (p:U) (K:ag->U->Prop),P[0]?=some (.bool L)->K ((t2,.bool L)::(t1,.bP P)::h g) p->gh G #[o,q] ⟨false,[],[]⟩ [] [1] ((h g).put o.dst (.bP P)) p K:=λP L p K aT a1=>by
  refine⟨q,rfl,.inr (.inl ⟨by simp only[fK,Z.2.2],by simp,[],[],.bool L,p,at4 _ _ _,by simp,by simp,bC.extract (x:=.tmp t1) Z.1 (by rw[M.2.1];show ag.get _ _=_;rw[ag.put,atK,if_pos rfl]) aT,?_⟩)⟩;rw[M.2.1,Z.2.1];exact a1
 rcases a8 with⟨N,rfl,rfl⟩|⟨e,N,rfl,rfl⟩
 .refine ext _ false _ _ rfl ?_
  have ba:∀i,i∈c↔i<l.length:=λi=>⟨ai i,λbE=>by
   have bp:i<es.size:=by omega
   refine(W i es[i] (Array.getElem?_eq_getElem bp)).1 ?_;by_cases Y:seen.contains es[i].born=true
   .exact Y
   .exfalso;have:es[i]∈leftOf es seen:=by
     unfold leftOf
     grind
    have:leftOf es seen≠#[]:=λe=>by rw[e]at this;simp at this
    exact this (Array.eq_empty_of_size_eq_zero N)⟩
  have aV:(jc l c).Perm l:=by
   have:=(C6 aX ba).filterMap λi=>l[i]?;have O:=DZ l;unfold jc at O ⊢
   rwa [O]at this
  refine A.seq (A.cond (b:=false) bj (λa=>by cases a) λ_=>A.exit ?_);exact out seen g _ aV aw
 .refine ext _ true _ _ rfl ?_;rw[a3 seen g];obtain⟨a5,a4⟩:=mem_left N;obtain⟨i,t⟩:=List.getElem?_of_mem a5;have t:es[i]?=some e:=by simpa using t
  have bh:i<l.length:=by have:=(Array.getElem?_eq_some_iff.1 t).1;omega
  have bM:i∉c:=λa=>by
   have:=(W i e t).2 a;rw[a4]at this;cases this
  have bo:l[i]?=some (l[i].1,l[i].2):=List.getElem?_eq_getElem bh;have aM:(c++[i]).Nodup:=by grind
  have aJ:∀f∈c++[i],f<l.length:=λf j=>by
   rcases List.mem_append.1 j with j|j
   .exact ai f j
   .grind
  have bb:∃d,B l[i].1 l[i].2 g=some d/\fL B (jc l (c++[i])) Ys=some d:=by
   have bu:jc l (c++[i])=jc l c++[(l[i].1,l[i].2)]:=by
    unfold jc
    grind
   have O:fL B (jc l (c++[i])) Ys=B l[i].1 l[i].2 g:=by
    rw[bu,Cj,aw];simp only[Option.bind_some,fL];cases B l[i].1 l[i].2 g<;>rfl
   have bz:(c++[i]++(List.range l.length).filter λf=>!(c++[i]).contains f).Perm (List.range l.length):=by
    refine C6 ?_ λf=>?_
    .rw[List.nodup_append];refine⟨aM,List.nodup_range.filter _,λa6 bq bt Y e=>?_⟩;subst e;have:=(List.mem_filter.1 Y).2;simp only[Bool.not_eq_true',List.contains_eq_mem,decide_eq_false_iff_not]at this;exact this bq
    .rw[List.mem_append,List.mem_filter,List.mem_range];constructor
     .rintro(a|a)
      .exact aJ f a
      .exact a.1
     .intro a;by_cases j:f∈c++[i]
      .exact .inl j
      .exact .inr ⟨a,by simpa using j⟩
   have aD:=bz.filterMap λi=>l[i]?;have an:=DZ l;unfold jc at an;rw[an,List.filterMap_append]at aD;obtain⟨r,T⟩:=m _ aD;rw[Cj]at T;cases R:fL B (jc l (c++[i])) Ys with
   |none=>unfold jc at R;rw[R]at T;cases T
   |some d=>exact⟨d,by rw[<-O];exact R,rfl⟩
  obtain⟨d,ax,a9⟩:=bb;refine A.seq (A.cond (b:=true) bi (λ_=>A.skip ?_) λa=>by cases a);refine(br seen e i l[i].1 l[i].2 g d t bo ab ax).mono λbv ao p u=>?_;cases bv with
  |normal=>
   refine⟨(seen.push e.born,d),⟨bl _ _ _ _ ax ab,c++[i],aM,aJ,λf ar j=>?_,a9⟩,left_shrinks es seen e N,u⟩;rw[contains_push,Bool.or_eq_true,beq_iff_eq,W f ar j,List.mem_append,List.mem_singleton];constructor
   .rintro(a|a)
    .exact .inl a
    .right;have aC:es.toList[f]?=some ar:=by simpa using j
     have aG:es.toList[i]?=some e:=by simpa using t
     have aF:=(List.getElem?_eq_some_iff.1 aC).1;have aH:=(List.getElem?_eq_some_iff.1 aG).1;have am:=(List.getElem?_eq_some_iff.1 aC).2;have ak:=(List.getElem?_eq_some_iff.1 aG).2;have aQ:=List.pairwise_iff_getElem.1 f2;rcases Nat.lt_trichotomy f i with J|J|J
     .refine absurd ?_ (aQ f i (by simpa using aF) (by simpa using aH) J);rw[List.getElem_map,List.getElem_map,am,ak,a]
     .exact J
     .refine absurd ?_ (aQ i f (by simpa using aH) (by simpa using aF) J);rw[List.getElem_map,List.getElem_map,am,ak,a]
   .rintro(a|a)
    .exact .inl a
    .subst a;rw[j]at t;cases t;exact .inr rfl
  |exit id=>exact u
  |goto l=>exact u
  |ret=>exact u
  |panic bt=>exact u
  |outgrown=>exact u
def auI{Q:Exit->ag->U->Prop}{r:S}(k:ou l B Ys=some r){j h:Oper}{y:Code}
  (f:S->Prop) (c:S->ag) (a:iL->S->U) (A:j.op=.next (.tmp it) false/\j.dst=some t1/\j.guard=none) (z:h.op=.extract (.tmp t1) 0/\h.dst=some t2/\h.guard=none) (J:qw G.N #[j,h]=true)
  (H:f Ys) (E:∀n v g d,B n v g=some d->f g->f d) (C:∀g,(c g).get it=.ptr cG 0) (D:∀seen g,(a seen g).get cG=some (.iter b1 clock clock seen)) (ey:∀seen g,∃Xz,(a seen g).get b1=some Xz/\Xz.nc=some (es,clock))
  (x:∀seen g p,(a seen g).set cG (.iter b1 clock clock p)=a p g) (t:∀seen g,f g->∀cx I β w,bx G cx I β (a seen g) w->β b1≠.nilFunc->es.size=l.length)
  (q:cu G env σ (c Ys) (a #[] Ys))
  (F:∀(seen:iL) (e:MapEntry) (i:Nat) (n:Int) (v:α) (g d:S),es[i]?=some e->l[i]?=some (n,v)->f g->B n v g=some d->
   aq G y (kE (λu s=>cu G u s (c d) (a (seen.push e.born) d)) Q) ((t2,.bool true)::(t1,.bP [.bool true,.c7,.c7])::c g) (a (seen.push e.born) g))
  (out:∀seen,Q (.exit b) ((t2,.bool false)::(t1,.bP [.bool false])::c r) (a seen r)) :
  aq G (.loop (.seq (.region id #[j,h] false) (.seq (.cond (.tmp t2) .skip (.exit b)) y))) Q env σ:=
 auH (λm o=>⟨r,((yA k).1 m o).trans (yA k).2⟩) f c a A z J H E C D ey x t q F λseen K m o e=>by
  cases e.symm.trans (((yA k).1 m o).trans (yA k).2);exact out seen
end
end
section
def dN{α:Type}(e:eT α)(l:List α):H:=.bn false (af e l)
def S2{α:Type}(e:eT α)(I:aZ):aS I (dN e []) (.slice none 0 0):=by
 simp only[dN,af,List.map_nil,aS];exact⟨none,0,rfl,by simp,by simp[maxLen],by simp,.inl trivial⟩
def y3{P:Program}{E:Nat}{α:Type}(e:eT α)(h:∀w,(zeroValue E).run P w=.ok (.slice none 0 0) w):∀w,∃v,(zeroValue E).run P w=.ok v w/\∀I,aS I (dN e []) v:=λw=>⟨_,h w,S2 e⟩
def qd{P:Program}{E:Nat}{k:IntKind}(h:∀w,(zeroValue E).run P w=.ok (.int k 0) w):∀w,∃v,(zeroValue E).run P w=.ok v w/\∀I,aS I (dJ k 0) v:=λw=>⟨_,h w,λI=>by simp[dJ,aS]⟩
section
variable {P:Program}
def yp{α:Type}(T9 VY VT aQ sz e2 t:Nat)(k:IntKind)(l:List (Int×List α))(n:Int)(enc:α->List H)(ids:cr)(op:Op)(env:ag)(σ:U):Option (b8×b7):=match op with
 |.lookup T x y false=>(match env.cc x with
  |some (.b6 d)=>(match env.cc y with
   |some (.int a c)=>(match σ.get d with
    |some (.dD K E e keys none b)=>(match σ.get e with
     |some (.cE dj)=>bif Nat.beq T T9&&Nat.beq K VY&&Nat.beq E VT&&(σ.get t).isNone&&(σ.get e2).isNone&&!Nat.beq t e2&&!ids.contains t&&!ids.contains e2&&σ.clean [t,e2].contains then
       some (.e [d,e,e2,t] [t,e2] (.own t) ((t,.slice aQ sz (((aB l n).getD []).map enc) 0 false)::(e2,.cE (dZ aQ sz enc (gI l n)))::(d,.dD K E e2 (di k l) (hL l n t) b)::σ.minus [d,e]),([.int a c,.agg keys],[(1,.cE dj)]))else none
     |_=>none)
    |_=>none)
   |_=>none)
  |_=>none)
 |_=>none
variable {N T9 VT VY aQ e2 sz:Nat}{TK:b7}{env:ag}{k:IntKind}{o:Oper}{α:Type}{enc:α->List H}{σ:U}
theorem Nt{t:Nat}{l:List (Int×List α)}{n:Int}(u:fZ P T9 VY VT k)(B:∀w,(zeroValue VT).run P w=.ok (.slice none 0 0) w){ids:cr}{s:b8}
  (h:yp T9 VY VT aQ sz e2 t k l n enc ids o.op env σ=some (s,TK)) (A:TK=([.int k n,.agg (di k l)],[(1,.cE (dZ aQ sz enc l))])):dL ⟨P,N,ids⟩ o env σ s:=by
 cases a:o.op<;>rw[a]at h
 case lookup T x y ok=>
  cases ok with
  |true=>cases h
  |false=>
   simp only[yp]at h;split at h
   .rename_i I d;split at h
    .rename_i F K f;split at h
     .rename_i E C v J H z;split at h
      .rename_i dj e;obtain⟨b,⟨⟩⟩:=dX h;simp only[Bool.and_eq_true,Bool.not_eq_true']at b;obtain⟨⟨⟨⟨⟨⟨⟨⟨g,i⟩,c⟩,m⟩,j⟩,G⟩,q⟩,p⟩,r⟩:=b;obtain rfl:=Nat.eq_of_beq_eq_true g;obtain rfl:=Nat.eq_of_beq_eq_true i;obtain rfl:=Nat.eq_of_beq_eq_true c;cases A;refine⟨D.P5 l enc a (atu d) (atu f) z e u B (by simpa using m) (by simpa using j) (λv=>?_) q p r,?_⟩
       all_goals simp_all
      .cases h
     .cases h
    .cases h
   .cases h
 all_goals (simp only[yp]at h;cases h)
def tC{α:Type}{T9 VY VT:Nat}{k:IntKind}(aQ sz e2 t:Nat)(l:List (Int×List α))(n:Int)(enc:α->List H)(a:fZ P T9 VY VT k)(d:∀w,(zeroValue VT).run P w=.ok (.slice none 0 0) w):Hint P:=
 .gs true ([.int k n,.agg (di k l)],[(1,.cE (dZ aQ sz enc l))]) (yp T9 VY VT aQ sz e2 t k l n enc) λ_ _ _ _ _ _ _ b c=>Nt a d b c
def GA(env:ag)(σ:U)(aQ sz:Nat)(d:Operand):Option (cr×List (List H)):=match env.cc d with
 |some .az=>some ([],[])
 |some (.own a)=>(match σ.get a with
  |some (.slice b c xs 0 _)=>bif Nat.beq b aQ&&Nat.beq c sz then some ([a],xs)else none
  |_=>none)
 |_=>none
def uz{α:Type}(T9 VY VT aQ sz e2:Nat)(k:IntKind)(UU:List (Int×List α))(enc:α->List H)(ids:cr)(T:Nat)(x y g:Operand)(env:ag)(σ:U):Option (b8×b7×Option (hD×Nat)):=match env.cc x with
  |some (.b6 a)=>(match env.cc y with
   |some (.int c f)=>(match σ.get a with
    |some (.dD K E e keys d h)=>(match σ.get e with
     |some (.cE dj)=>(match GA env σ aQ sz g with
      |some (b,xs)=>bif Nat.beq T T9&&Nat.beq K VY&&Nat.beq E VT&&(σ.get e2).isNone&&!ids.contains e2&&σ.clean [e2].contains then
       some (.e (a::e::e2::b) [e2] .undef ((e2,.cE (dZ aQ sz enc UU))::(a,.dD K E e2 (di k UU) none none)::σ.minus (a::e::b)),([.int c f,.agg keys,.bn false xs],[(1,.cE dj)]),d)else none
      |none=>none)
     |_=>none)
    |_=>none)
   |_=>none)
  |_=>none
variable {T:Nat}{UU:List (Int×List α)}{ks:List H}{x:Operand}
theorem Nu{l:List (Int×List α)}{n:Int}{row:List α}(v:fZ P T9 VY VT k){ids:cr}{s:b8}{d:Option (hD×Nat)}{y f:Operand}
  (m:o.op=.mapUpdate T x y f\/o.op=.insert T x y f) (h:uz T9 VY VT aQ sz e2 k UU enc ids T x y f env σ=some (s,TK,d)) (J:TK=([.int k n,.agg ks,.bn false (row.map enc)],[(1,.cE (dZ aQ sz enc l))])) (I:di k l=ks) (G:bM l n row=UU) (q:d=none\/∃t,d=hL l n t) (E:row.map enc=[]->row=[]):dL ⟨P,N,ids⟩ o env σ s:=by
 subst I G;simp only[uz]at h;split at h
 .rename_i U g;split at h
  .rename_i M X j;split at h
   .rename_i L K V W S O w;split at h
    .rename_i dj i;split at h
     .rename_i Q Y a;obtain⟨u,⟨⟩⟩:=dX h;simp only[Bool.and_eq_true,Bool.not_eq_true']at u;obtain⟨⟨⟨⟨⟨C,D⟩,B⟩,p⟩,c⟩,r⟩:=u;obtain rfl:=Nat.eq_of_beq_eq_true C;obtain rfl:=Nat.eq_of_beq_eq_true D;obtain rfl:=Nat.eq_of_beq_eq_true B;cases J;simp only[GA]at a;split at a
      .rename_i e;simp only[Option.some.injEq,Prod.mk.injEq]at a;obtain⟨rfl,a⟩:=a;exact⟨auL (bN:=false) [] l enc row m (atu g) (atu j) (.inl ⟨atu e,E a.symm,rfl⟩) w q i v (by simpa using p) c r,by simp only[List.all_cons,List.all_nil,c];rfl⟩
      .rename_i z e;split at a
       .rename_i F H R bN A;cases b:(Nat.beq F aQ&&Nat.beq H sz)with
        |false=>rw[b]at a;cases a
        |true=>
         rw[b]at a;simp only[cond_true,Option.some.injEq,Prod.mk.injEq]at a;obtain⟨rfl,rfl⟩:=a;simp only[Bool.and_eq_true]at b;obtain rfl:=Nat.eq_of_beq_eq_true b.1;obtain rfl:=Nat.eq_of_beq_eq_true b.2;exact⟨auL (bN:=bN) [z] l enc row m (atu g) (atu j) (.inr ⟨z,atu e,A,rfl⟩) w q i v (by simpa using p) c r,by simp only[List.all_cons,List.all_nil,c];rfl⟩
       .grind
      .cases a
     .cases h
    .cases h
   .cases h
  .cases h
 .cases h
def lD:Option (hD×Nat)->H
 |none=>.c7
 |some (none,t)=>.own t
 |some (some i,t)=>.ptr t i
def K9:∀{a b:Option (hD×Nat)},lD a=lD b->a=b
 |none,none,_=>rfl
 |some (none,t),some (none,c),h=>by simp only[lD,H.own.injEq]at h;rw[h]
 |some (some i,t),some (some d,c),h=>by simp only[lD,H.ptr.injEq]at h;rw[h.1,h.2]
 |none,some (none,_),h|none,some (some _,_),h|some (none,_),none,h|some (some _,_),none,h|some (none,_),some (some _,_),h|some (some _,_),some (none,_),h=>by simp[lD]at h
def rL{α:Type}(T9 VY VT aQ sz e2:Nat)(k:IntKind)(UU:List (Int×List α))(enc:α->List H)(ids:cr)(op:Op)(env:ag)(σ:U):Option (b8×b7):=match op with
 |.mapUpdate T x y z=>(match uz T9 VY VT aQ sz e2 k UU enc ids T x y z env σ with|some (s,TK,a)=>some (s,(lD a::TK.1,TK.2))|none=>none)
 |.insert T x y z=>(match uz T9 VY VT aQ sz e2 k UU enc ids T x y z env σ with|some (s,TK,a)=>some (s,(lD a::TK.1,TK.2))|none=>none)
 |_=>none
theorem FJ{l:List (Int×List α)}{n:Int}{row:List α}{d:Option (hD×Nat)}(r:fZ P T9 VY VT k)(w:di k l=ks)(v:bM l n row=UU)(p:d=none\/∃t,d=hL l n t){ids:cr}{s:b8}
  (h:rL T9 VY VT aQ sz e2 k UU enc ids o.op env σ=some (s,TK)) (g:TK=([lD d,.int k n,.agg ks,.bn false (row.map enc)],[(1,.cE (dZ aQ sz enc l))])):dL ⟨P,N,ids⟩ o env σ s:=by
 have q:row.map enc=[]->row=[]:=λh=>List.map_eq_nil_iff.1 h;have z:∀{T:Nat} {x a b:Operand} (f:Option (hD×Nat)) (c:b7),(o.op=.mapUpdate T x a b\/o.op=.insert T x a b)->uz T9 VY VT aQ sz e2 k UU enc ids T x a b env σ=some (s,c,f)->TK=(lD f::c.1,c.2)->dL ⟨P,N,ids⟩ o env σ s:=by
  intro T x a b f c e i j;rw[j]at g;simp only[Prod.mk.injEq,List.cons.injEq]at g;obtain⟨⟨y,u⟩,m⟩:=g;refine Nu r e i (Prod.ext u m) w v ?_ q;rw[K9 y];exact p
 cases e:o.op<;>rw[e]at h
 case mapUpdate T x a b=>
  simp only[rL]at h;split at h
  .grind
  .cases h
 case insert T x a b=>
  simp only[rL]at h;split at h
  .grind
  .cases h
 all_goals (simp only[rL]at h;cases h)
def Hq{α:Type}{T9 VY VT:Nat}{k:IntKind}(aQ sz e2:Nat)(l:List (Int×List α))(n:Int)(enc:α->List H)(row:List α)(a:fZ P T9 VY VT k):Hint P:=
 .gs true ([lD none,.int k n,.agg (di k l),.bn false (row.map enc)],[(1,.cE (dZ aQ sz enc l))]) (rL T9 VY VT aQ sz e2 k (bM l n row) enc) λ_ _ _ _ _ _ _ b c=>FJ a rfl rfl (.inl rfl) b c
def wV{α:Type}{T9 VY VT:Nat}{k:IntKind}(aQ sz e2:Nat)(l:List (Int×List α))(n:Int)(enc:α->List H)(row:List α)(t:Nat)(a:fZ P T9 VY VT k):Hint P:=
 .gs true ([lD (hL l n t),.int k n,.agg (di k l),.bn false (row.map enc)],[(1,.cE (dZ aQ sz enc (gI l n)))]) (rL T9 VY VT aQ sz e2 k (bM l n row) enc) λ_ _ _ _ _ _ _ b c=>FJ a (DS k l n) (Ed l n row) (.inr ⟨t,(Kw l n t).symm⟩) b c
def xA{α:Type}(T9:Nat)(k:IntKind)(l:List (Int×α))(n:Int)(enc:α->H)(a:α)(op:Op)(env:ag)(σ:U):Option (b8×b7):=match op with
 |.lookup T x y ok=>(match env.cc x with
  |some (.dc c)=>(match env.cc y with
   |some (.int b e)=>bif Nat.beq T T9 then some (.y [] (bif ok then .bP [enc ((aB l n).getD a),.bool (aB l n).isSome]else enc ((aB l n).getD a)),([.dc c,.int b e],[]))else none
   |_=>none)
  |some (.b6 d)=>(match env.cc y with
   |some (.int b e)=>(match σ.get d with
    |some (.eV es clock K E c)=>bif Nat.beq T T9 then some (.y [d] (bif ok then .bP [enc ((aB l n).getD a),.bool (aB l n).isSome]else enc ((aB l n).getD a)),([.dc c,.int b e],[]))else none
    |_=>none)
   |_=>none)
  |_=>none)
 |_=>none
variable {clock:Nat}{es:gl}
def auX{G:bG}{ev:Operand->H}{K E r q d:Nat}{y:Operand}{f:Bool}{n:Int}(l:List (Int×α))(enc:α->H)(b:α)(h:o.op=.lookup T x y f)(g:ev x=.b6 d)(i:ev y=.int k n)(s:σ.get d=some (.eV es clock r q (bo k enc l)))
  (p:fZ G.P T K E k) (t:∀w,∃v,(zeroValue E).run G.P w=.ok v w/\∀I,aS I (enc b) v) :
  Yields G o ev σ [] [d] (bif f then .bP [enc ((aB l n).getD b),.bool (aB l n).isSome]else enc ((aB l n).getD b)):=
 .pure λz cx I A w u m j c=>by
  have e:=c x (by simp[h,Op.operands]);rw[g]at e
  have a:=c y (by simp[h,Op.operands]);rw[i]at a;have a:=fB a
  exact yJ l enc b h (K3 j (by rw[m d (by simp)];exact s) e) a p t
variable {l:List (Int×α)}
def Nv{n:Int}{enc:α->H}{a:α}(f:fZ P T9 VY VT k)(i:∀w,∃v,(zeroValue VT).run P w=.ok v w/\∀I,aS I (enc a) v){ids:cr}{s:b8}
  (h:xA T9 k l n enc a o.op env σ=some (s,TK)) (g:TK=([.dc (bo k enc l),.int k n],[])):dL ⟨P,N,ids⟩ o env σ s:=by
 cases e:o.op<;>rw[e]at h
 case lookup T x y ok=>
  simp only[xA]at h;split at h
  .rename_i m b;split at h
   .rename_i j q d;obtain⟨c,⟨⟩⟩:=dX h;obtain rfl:=Nat.eq_of_beq_eq_true c;cases g;exact au0 l enc a e (atu b) (atu d) f i
   .cases h
  .rename_i u b;split at h
   .rename_i j q d;split at h
    .rename_i es clock t r m p;obtain⟨c,⟨⟩⟩:=dX h;obtain rfl:=Nat.eq_of_beq_eq_true c;cases g;exact auX l enc a e (atu b) (atu d) p f i
    .cases h
   .cases h
  .cases h
 all_goals (simp only[xA]at h;cases h)
def lU{α:Type}{T9 VY VT:Nat}{k:IntKind}(l:List (Int×α))(n:Int)(enc:α->H)(a:α)(b:fZ P T9 VY VT k)(e:∀w,∃v,(zeroValue VT).run P w=.ok v w/\∀I,aS I (enc a) v):Hint P:=
 .gs false ([.dc (bo k enc l),.int k n],[]) (λ_=>xA T9 k l n enc a) λ_ _ _ _ _ _ _ c d=>Nv b e c d
def xL(T9:Nat)(n:Int)(op:Op)(env:ag)(_:U):Option (b8×b7):=match op with
 |.call c=>(match c.callee with
  |.builtin b=>(match b with
   |.len=>(match c.args.toList with
    |[x]=>(match c.argTypes.toList with
     |[T]=>(match env.cc x with
      |some (.dc a)=>bif Nat.beq T T9 then some (.y [] (.int .i64 n),([.dc a],[]))else none
      |_=>none)
     |_=>none)
    |_=>none)
   |_=>none)
  |_=>none)
 |_=>none
def Nw{enc:α->H}(f:fZ P T9 VY VT k){ids:cr}{s:b8}
  (h:xL T9 (l.length:Int) o.op env σ=some (s,TK)) (i:TK=([.dc (bo k enc l)],[])):dL ⟨P,N,ids⟩ o env σ s:=by
 cases a:o.op<;>rw[a]at h
 case call c=>
  obtain⟨p,args,j⟩:=c;simp only[xL]at h;split at h
  .rename_i m;split at h
   .split at h
    .rename_i x e;have:args=#[x]:=Array.toList_inj.1 (by simpa using e);subst this;split at h
     .rename_i T g;have:j=#[T]:=Array.toList_inj.1 (by simpa using g);subst this;split at h
      .rename_i n b;obtain⟨d,⟨⟩⟩:=dX h;obtain rfl:=Nat.eq_of_beq_eq_true d;cases i;exact au8 l enc a rfl (atu b) f.en
      .cases h
     .cases h
    .cases h
   .cases h
  .cases h
 all_goals (simp only[xL]at h;cases h)
def RW{α:Type}{T9 VY VT:Nat}{k:IntKind}(l:List (Int×α))(enc:α->H)(a:fZ P T9 VY VT k):Hint P:=
 .gs false ([.dc (bo k enc l)],[]) (λ_=>xL T9 (l.length:Int)) λ_ _ _ _ _ _ _ b c=>Nw (l:=l) (enc:=enc) a b c
def w9{α:Type}(T9 VY:Nat)(k:IntKind)(l:List (Int×α))(n:Int)(enc:α->H)(op:Op)(env:ag)(σ:U):Option (b8×b7):=match op with
 |.call c=>(match c.callee with
  |.builtin b=>(match b with
   |.delete=>(match c.args.toList with
    |[x,y]=>(match c.argTypes.toList with
     |[T,K]=>(match env.cc x with
      |some (.b6 d)=>(match env.cc y with
       |some (.int e g)=>(match σ.get d with
        |some (.map a E f)=>bif Nat.beq T T9&&Nat.beq K VY&&Nat.beq a VY then some (.e [d] [] (.bP []) (σ.set d (.map a E (bo k enc (h4 l n)))),([.dc f,.int e g],[(0,.cells E [])]))else none
        |_=>none)
       |_=>none)
      |_=>none)
     |_=>none)
    |_=>none)
   |_=>none)
  |_=>none)
 |_=>none
theorem On{n:Int}{enc:α->H}(p:fZ P T9 VY VT k){ids:cr}{s:b8}
  (h:w9 T9 VY k l n enc o.op env σ=some (s,TK)) (t:TK=([.dc (bo k enc l),.int k n],[(0,.cells VT [])])):dL ⟨P,N,ids⟩ o env σ s:=by
 cases b:o.op<;>rw[b]at h
 case call c=>
  obtain⟨C,args,u⟩:=c;simp only[w9]at h;split at h
  .rename_i A;split at h
   .split at h
    .rename_i x v m;have:args=#[x,v]:=Array.toList_inj.1 (by simpa using m);subst this;split at h
     .rename_i T d q;have:u=#[T,d]:=Array.toList_inj.1 (by simpa using q);subst this;split at h
      .rename_i E e;split at h
       .rename_i y F f;split at h
        .rename_i z w B r;obtain⟨a,⟨⟩⟩:=dX h;simp only[Bool.and_eq_true]at a;obtain⟨⟨i,g⟩,j⟩:=a;obtain rfl:=Nat.eq_of_beq_eq_true i;obtain rfl:=Nat.eq_of_beq_eq_true g;obtain rfl:=Nat.eq_of_beq_eq_true j;cases t;exact⟨D.Kx l enc b (atu e) (atu f) r p,rfl⟩
        .grind
       .cases h
      .cases h
     .cases h
    .cases h
   .cases h
  .cases h
 all_goals (simp only[w9]at h;cases h)
def gD{α:Type}{T9 VY VT:Nat}{k:IntKind}(l:List (Int×α))(n:Int)(enc:α->H)(a:fZ P T9 VY VT k):Hint P:=
 .gs true ([.dc (bo k enc l),.int k n],[(0,.cells VT [])]) (λ_=>w9 T9 VY k l n enc) λ_ _ _ _ _ _ _ b c=>On a b c
def x9(T9 cG:Nat)(es:gl)(clock:Nat)(ids:cr)(op:Op)(env:ag)(σ:U):Option (b8×b7):=match op with
 |.range T x=>(match env.cc x with
  |some (.b6 b1)=>(match σ.get b1 with
   |some c=>(match c.nc with
    |some (a,b)=>bif Nat.beq T T9&&!ids.contains cG&&σ.clean [cG].contains then some (.e [cG] [cG] (.ptr cG 0) ((cG,.iter b1 clock clock #[])::σ),([],[(0,.eV a b 0 0 [])]))else none
    |_=>none)
   |_=>none)
  |_=>none)
 |_=>none
variable {cG:Nat}
def Oo(g:fZ P T9 VY VT k){ids:cr}{s:b8}
  (h:x9 T9 cG es clock ids o.op env σ=some (s,TK)) (l:TK=([],[(0,.eV es clock 0 0 [])])):dL ⟨P,N,ids⟩ o env σ s:=by
 cases b:o.op<;>rw[b]at h
 case range T x=>
  simp only[x9]at h;split at h
  .rename_i b1 d;split at h
   .rename_i p j;split at h
    .rename_i m n i;obtain⟨a,⟨⟩⟩:=dX h;simp only[Bool.and_eq_true,Bool.not_eq_true']at a;obtain⟨⟨e,c⟩,f⟩:=a;obtain rfl:=Nat.eq_of_beq_eq_true e;cases l;exact⟨D.range b (atu d) j i g.en c f,by simp only[List.all_cons,List.all_nil,c];rfl⟩
    .cases h
   .cases h
  .cases h
 all_goals (simp only[x9]at h;cases h)
def BA{T9 VY VT:Nat}{k:IntKind}(cG:Nat)(es:gl)(clock:Nat)(a:fZ P T9 VY VT k):Hint P:=
 .gs true ([],[(0,.eV es clock 0 0 [])]) (x9 T9 cG es clock) λ_ _ _ _ _ _ _ b c=>Oo a b c
def nQ(cG b1:Nat)(a:H)(f:Bool)(op:Op)(env:ag)(σ:U):Option (b8×b7):=match op with
 |.entry x=>(match env.cc x with
  |some (.ptr b 0)=>(match σ.get cG with
   |some d=>(match σ.get b1 with
    |some (.eV es c K E g)=>bif Nat.beq b cG&&!f then some (.y [cG,b1] a,([.dc g],[(0,d),(1,.eV es c 0 0 [])]))else none
    |some (.dD K E e keys h (some (es,c)))=>bif Nat.beq b cG&&f then some (.y [cG,b1] a,([.agg keys],[(0,d),(1,.eV es c 0 0 [])]))else none
    |_=>none)
   |_=>none)
  |_=>none)
 |_=>none
variable {b1 i:Nat}
theorem Oq{seen:iL}{e:MapEntry}{n:Int}{v:α}{enc:α->H}(f:es[i]?=some e)(j:l[i]?=some (n,v)){ids:cr}{s:b8}
  (h:nQ cG b1 (.bP [.int k n,enc v]) false o.op env σ=some (s,TK)) (c:TK=([.dc (bo k enc l)],[(0,.iter b1 clock clock (seen.push e.born)),(1,.eV es clock 0 0 [])])):dL ⟨P,N,ids⟩ o env σ s:=by
 cases b:o.op<;>rw[b]at h
 case entry x=>
  simp only[nQ]at h;split at h
  .rename_i g d;split at h
   .rename_i u m;split at h
    .rename_i t y r q w p;cases a:Nat.beq g cG with
     |false=>rw[a]at h;cases h
     |true=>
      rw[a]at h;have:=Nat.eq_of_beq_eq_true a;subst this;cases h;simp only[Prod.mk.injEq,List.cons.injEq,H.dc.injEq,bY.eV.injEq,and_true,true_and]at c;obtain⟨rfl,rfl,rfl,rfl⟩:=c;exact au4 l enc b (atu d) m p f j
    all_goals grind
   .cases h
  .cases h
 all_goals (simp only[nQ]at h;cases h)
def tv{α:Type}{es:gl}{i:Nat}{e:MapEntry}{n:Int}{v:α}{l:List (Int×α)}(cG b1 clock:Nat)(k:IntKind)(seen:iL)(enc:α->H)(a:es[i]?=some e)(b:l[i]?=some (n,v)):Hint P:=
 .gs false ([.dc (bo k enc l)],[(0,.iter b1 clock clock (seen.push e.born)),(1,.eV es clock 0 0 [])]) (λ_=>nQ cG b1 (.bP [.int k n,enc v]) false) λ_ _ _ _ _ _ _ c d=>Oq a b c d
theorem Ot{seen:iL}{e:MapEntry}{n:Int}(f:es[i]?=some e)(j:(l.map (·.1))[i]?=some n){ids:cr}{s:b8}
  (h:nQ cG b1 (.bP [.int k n,.c7]) true o.op env σ=some (s,TK)) (c:TK=([.agg (di k l)],[(0,.iter b1 clock clock (seen.push e.born)),(1,.eV es clock 0 0 [])])):dL ⟨P,N,ids⟩ o env σ s:=by
 cases b:o.op<;>rw[b]at h
 case entry x=>
  simp only[nQ]at h;split at h
  .rename_i g d;split at h
   .rename_i v m;split at h
    .grind
    .rename_i r q e y t u w p;cases a:Nat.beq g cG with
     |false=>rw[a]at h;cases h
     |true=>
      rw[a]at h;have:=Nat.eq_of_beq_eq_true a;subst this;cases h;simp only[Prod.mk.injEq,List.cons.injEq,H.agg.injEq,bY.eV.injEq,and_true,true_and]at c;obtain⟨rfl,rfl,rfl,rfl⟩:=c;exact au5 l b (atu d) m p f j
    .cases h
   .cases h
  .cases h
 all_goals (simp only[nQ]at h;cases h)
def RS{α:Type}{es:gl}{i:Nat}{e:MapEntry}{n:Int}{l:List (Int×α)}(cG b1 clock:Nat)(k:IntKind)(seen:iL)(a:es[i]?=some e)(b:(l.map (·.1))[i]?=some n):Hint P:=
 .gs false ([.agg (di k l)],[(0,.iter b1 clock clock (seen.push e.born)),(1,.eV es clock 0 0 [])]) (λ_=>nQ cG b1 (.bP [.int k n,.c7]) true) λ_ _ _ _ _ _ _ c d=>Ot a b c d
end
variable {G:bG}{I:aZ}{cx:c0}{w:World}
def Hd{σ:U}{β:Nat->Value}{α:Type}{k:IntKind}{enc:α->H}{b1 K E clock:Nat}{es:gl}{l:List (Int×α)}(c:bx G cx I β σ w)(e:σ.get b1=some (.eV es clock K E (bo k enc l)))(d:β b1≠.nilFunc):es.size=l.length:=by
 have a:=c.bO b1 _ e;simp only[bc,d,false_or]at a;obtain⟨h,f,g,b,_⟩:=a;have:=Cn _ _ b;simpa [bo]using this
def Bg{σ:U}{β:Nat->Value}{α:Type}{k:IntKind}{b1 K E e clock:Nat}{es:gl}{h:Option (hD×Nat)}{l b:List (Int×α)}(d:bx G cx I β σ w)(n:σ.get b1=some (.dD K E e (di k l) h (some (es,clock))))(i:β b1≠.nilFunc)(j:l.map (·.1)=b.map (·.1)):es.size=b.length:=by
 have a:=d.bO b1 _ n;simp only[bc,i,false_or]at a;obtain⟨A,y,z,s,v,p,q,r,o,f,u,t,x,g⟩:=a;cases g _ rfl;have m:=f.length.2;have c:=congrArg List.length j;simp[di]at m c;omega
def zm{α:Type}:∀{l:List (Int×α)} {n:Int} (v:α),(aB l n).isSome=true->(bM l n v).map (·.1)=l.map (·.1)
 |[],_,_,h=>by simp[aB]at h
 |p::r,n,v,h=>by
  rw[gB]at h;by_cases a:p.1=n
  .simp[bM,a]
  .rw[if_neg a]at h;simp[bM,a,zm v h]
def Ou{α:Type}{l a:List (Int×α)}{i:Nat}{n:Int}{v:α}(h:l.map (·.1)=a.map (·.1))(b:a[i]?=some (n,v)):(l.map (·.1))[i]?=some n:=by rw[h];simp[b]
end
section
section
variable {G:bG}{σ:U}{o:Oper}{ev:Operand->H}
def avc{T E N sz d off:Nat}{x y:Operand}{k:IntKind}{i:Int}(h:o.op=.indexAddr T x y)(f:ev x=.ptr d off)(j:ev y=.int k i)(p:G.P.underlying T=some (.array N E))(g:∀w,(sizeOf E).run G.P w=.ok sz w)(hi:0<=i/\i<N):
  Yields G o ev σ [] [] (.ptr d (off+i.toNat*sz)):=
 .pure λt v q z w r u s c=>by
  have b:=c x (by simp[h,Op.operands]);rw[f]at b
  have a:=c y (by simp[h,Op.operands]);rw[j]at a;have a:=fB a
  simp only[au]at b;obtain⟨e,m,l⟩:=b;have n:∀w,(underlying T).run G.P w=.ok (.array N E) w:=λw=>by simp[underlying,program,Sem.run,p]
  exact⟨.pointer (some ⟨e,off+i.toNat*sz,none⟩),by simp[execOp,h,a,l,Instr.indexAt,Instr.sureAddr,asIntOf,n,hi,g,Addr.add],by simp only[au];exact⟨e,m,rfl⟩⟩
end
section
variable {P:Program}
end
end
section
def encS{α:Type}(T:TypeId)(sz:Nat)(enc:α->List H)(l:List (List α)):List eL:=l.map λa=>.sl T sz (a.map enc)
def Eh{α:Type}{T:TypeId}{sz:Nat}{enc:α->List H}(l:List (List α))(i:Nat)(r:List α):encS T sz enc (l.set i r)=(encS T sz enc l).set i (.sl T sz (r.map enc)):=by simp[encS,List.map_set]
section weak
variable {G:bG}{env:ag}{σ:U}
end weak
section
variable {G:bG}{σ:U}{o:Oper}{ev:Operand->H}
end
end
end
end Go.Proofs.YteghoodgfjhjkaaGreat
