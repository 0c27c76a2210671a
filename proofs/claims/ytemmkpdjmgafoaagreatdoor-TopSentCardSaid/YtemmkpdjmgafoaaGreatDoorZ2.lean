/- A part of the proof; the last text says of what. No condition but those that stand in each. -/
import Derived.Test.YtemmkpdjmgafoaaGreatDoorZ1
import Derived.Lib.SliceRun
import Derived.Laws.BytesString
import Derived.Scope
import Derived.Below
import Derived.ChangeSame
import Derived.WideKeyArgs
import Derived.ProofKit
import Derived.LoopN
import Derived.Shelf.SlSortCmp.NoneTotal
namespace Go.Proofs.YtemmkpdjmgafoaaGreatDoor
set_option linter.all false
section
open Go
section
def af{α β:Type}(o:Option α)(k:α->Option β):Option β:=match o with|none=>none|some a=>k a
def dV{α β:Type}(o:Option α)(k:α->Option β)(b:Option β):Option β:=match o with|none=>b|some a=>k a
def eD{β:Type}(c:Bool)(k:Option β):Option β:=bif c then k else none
def jn{σ β:Type}(k:σ->Option β)(t:(σ->Option β)->Option β):Option β:=t k
def bC{α σ β:Type}:List α->Nat->(Int->α->(σ->Option β)->σ->Option β)->(σ->Option β)->σ->Option β
 |[],_,_,K,s=>K s
 |x::r,j,B,K,s=>B (j:Int) x (bC r (j+1) B K) s
def iD{σ β:Type}:Nat->Int->(Int->(σ->Option β)->σ->Option β)->(Int->σ->Option β)->σ->Option β
 |0,i,_,K,s=>K i s
 |n+1,i,B,K,s=>B i (iD n (i+1) B K) s
def iter{σ β:Type}(F:(σ->Option β)->σ->Option β):Nat->σ->Option β
 |0,_=>none
 |n+1,s=>F (iter F n) s
def fuel:Nat:=1099511627776
def gu{σ β:Type}(F:(σ->Option β)->σ->Option β)(s:σ):Option β:=iter F fuel s
def a2(n:Int):Int:=IntKind.wrap .i64 n
def b6{α:Type}(l:List α)(i:Int):Option α:=if 0<=i then l[i.toNat]? else none
def gB{α:Type}(l:List α)(i:Int)(x:α):Option (List α):=if 0<=i/\i<l.length then some (l.set i.toNat x)else none
def aY:Nat:=549755813888
def dm{α:Type}(l r:List α):Option (List α):=if l.length+r.length<=aY then some (l++r)else none
def hB{α:Type}(l:List α)(a b:Int):Option (List α):=if 0<=a/\a<=b/\b<=l.length then some ((l.take b.toNat).drop a.toNat)else none
def II(s:ByteArray)(n:Int):Option UInt8:=if 0<=n then s[n.toNat]? else none
theorem XZ{s:ByteArray}{n:Int}{b:UInt8}(h:II s n=some b):0<=n/\s[n.toNat]?=some b:=by
 unfold II at h
 grind
variable {α β:Type}{o:Option α}{r:β}
def az{k:α->Option β}(h:af o k=some r):∃a,o=some a/\k a=some r:=by
 cases o with
 |none=>cases h
 |some a=>exact⟨a,rfl,h⟩
def yT{k:α->Option β}{b:Option β}(h:dV o k b=some r):(∃a,o=some a/\k a=some r)\/b=some r:=by
 cases o with
 |none=>exact .inr h
 |some a=>exact .inl ⟨a,rfl,h⟩
def g0{c:Bool}{k:Option β}(h:eD c k=some r):c=true/\k=some r:=by
 cases c with
 |false=>cases h
 |true=>exact⟨rfl,h⟩
theorem aC{c:Bool}{x y:Option β}(h:(bif c then x else y)=some r):(c=true/\x=some r)\/(c=false/\y=some r):=by grind
variable {σ:Type}
def cV{k:σ->Option β}{t:(σ->Option β)->Option β}(h:jn k t=some r):∃J,J=k/\t J=some r:=⟨k,rfl,h⟩
def cy{a b:α}(h:some a=some b):a=b:=by injection h
variable {j:Nat}{l:List α}
def cG{b:Int->α->(σ->Option β)->σ->Option β}{k:σ->Option β}{s:σ}(h:bC l j b k s=some r):
  ∃B K,B=b/\K=k/\bC l j B K s=some r:=⟨b,k,rfl,rfl,h⟩
variable {i:Int}
def sR{n:Nat}{b:Int->(σ->Option β)->σ->Option β}{k:Int->σ->Option β}{s:σ}(h:iD n i b k s=some r):
  ∃B K,B=b/\K=k/\iD n i B K s=some r:=⟨b,k,rfl,rfl,h⟩
def jL{f:(σ->Option β)->σ->Option β}{s:σ}(h:gu f s=some r):∃F n,F=f/\iter F n s=some r:=⟨f,_,rfl,h⟩
variable {x:α}
def oU[Inhabited α](h:b6 l i=some x):(0<=i/\i<l.length)/\el l i=x:=by
 unfold b6 at h;split at h
 .rename_i a;obtain⟨c,b⟩:=k0.1 h;refine⟨⟨a,by omega⟩,?_⟩;simp[el,oy,h]
 .cases h
def bU(h:l[j]?=some x):b6 l (j:Int)=some x:=by
 unfold b6;rw[bx (by omega)];simpa using h
variable {m:List α}
theorem WQ(h:gB l i x=some m):(0<=i/\i<l.length)/\l.set i.toNat x=m:=by
 unfold gB at h
 grind
theorem WR{r:List α}(h:dm l r=some m):l.length+r.length<=aY/\l++r=m:=by
 unfold dm at h
 grind
variable {a:Int}
theorem WS{b:Int}(h:hB l a b=some m):(0<=a/\a<=b/\b<=l.length)/\(l.take b.toNat).drop a.toNat=m:=by
 unfold hB at h
 grind
structure e9(α:Type) where
 enc:α->List U
 sz:Nat
 hz:∀r,(enc r).length=sz:=by exact λ_=>rfl
 one:∀r,(enc r).all U.one=true:=by exact λ_=>rfl
 cl:∀r,i1 (enc r)=true:=by exact λ_=>rfl
def bc{α:Type}(e:e9 α)(l:List α):List (List U):=l.map e.enc
def lR(e:e9 α)(l:List α):(bc e l).length=l.length:=by simp[bc]
def wh(e:e9 α)(l:List α):∀x∈bc e l,x.length=e.sz:=λx a=>by
 obtain⟨r,_,rfl⟩:=dg.1 a;exact e.hz r
def Ho(e:e9 α)(l:List α):(bc e l).flatten.all U.one=true:=ZK e.enc e.one l
def aJ:e9 Int:=⟨encI,1,λ_=>rfl,λ_=>rfl,λ_=>rfl⟩
def c9(k:IntKind):e9 Int:=⟨λa=>[.int k a],1,λ_=>rfl,λ_=>rfl,λ_=>rfl⟩
def mE(l:bX):ByteArray:=⟨(l.map λa=>UInt8.ofNat a.toNat).toArray⟩
def Pv{α:Type}(e:e9 α):e9 (List α):=⟨λl=>[.bn false (bc e l)],1,λ_=>rfl,λ_=>rfl,λ_=>rfl⟩
def rD(sz:Nat)(xs:List (List U))(i:Int)(row:List U):Prop:=(∀a∈xs,a.length=sz)/\0<=i/\i<xs.length/\el xs i=row
def ix(e:e9 α)(h:b6 l i=some x):rD e.sz (bc e l) i (e.enc x):=by
 refine⟨wh e l,?_⟩;unfold b6 at h;split at h
 .rename_i a;obtain⟨c,b⟩:=k0.1 h;exact⟨a,by rw[lR];omega,by simp[bc,el,oy,h]⟩
 .cases h
def B0(sz bytes:Nat)(xs ys zs:List (List U)):Prop:=
 xs++ys=zs/\(∀a∈xs,a.length=sz)/\(∀a∈ys,a.length=sz)/\ys.flatten.all U.one=true/\(xs.length+ys.length)*bytes<=140737488355328/\xs.length+ys.length<=maxLen
def ap(e:e9 α){bytes:Nat}(a:bytes<=256){r:List α}(h:dm l r=some m):B0 e.sz bytes (bc e l) (bc e r) (bc e m):=by
 obtain⟨c,b⟩:=WR h;unfold aY at c;refine⟨by rw[<-b];simp[bc],wh e l,wh e r,Ho e r,?_,?_⟩
 .rw[lR,lR];exact gP (Nat.mul_le_mul_left _ a) (by omega)
 .rw[lR,lR];unfold maxLen;omega
def B4(sz:Nat)(xs:List (List U))(i:Int)(off:Nat)(ca:List U)(zs:List (List U)):Prop:=
 rD sz xs i (el xs i)/\zs=xs.set i.toNat (gy (el xs i) off ca)
def st[Inhabited α](e:e9 α){y:α}{off:Nat}{ca:List U}(a:b6 l i=some x)(h:gB l i y=some m)(g:gy (e.enc x) off ca=e.enc y):B4 e.sz (bc e l) i off ca (bc e m):=by
 have j:=ix e a;obtain⟨b,c,d,f⟩:=j;refine⟨⟨b,c,d,rfl⟩,?_⟩;rw[f,g,<-(WQ h).2];simp[bc,List.map_set]
def nr(sz:Nat)(xs:List (List U))(a b:Int)(zs:List (List U)):Prop:=(∀c∈xs,c.length=sz)/\(0<=a/\a<=b/\b<=xs.length)/\(xs.take b.toNat).drop a.toNat=zs
def sl(e:e9 α){b:Int}(h:hB l a b=some m):nr e.sz (bc e l) a b (bc e m):=by
 obtain⟨d,c⟩:=WS h;exact⟨wh e l,by rw[lR];exact d,by rw[<-c];simp[bc,List.map_drop,List.map_take]⟩
def dZ(k:IntKind)(n:Int):U:=.int k n
def h6(b:Bool):U:=.bool b
def B2(P:Program)(E:Nat)(k:IntKind)(g:List (U×U))(n:Int)(a:U)(b:Bool):Prop:=∃(α:Type) (l:List (Int×α)) (enc:α->U) (e:α),
 g=bo k enc l/\a=enc ((aO l n).getD e)/\b=(aO l n).isSome/\(∀d,∃c,(zeroValue E).run P d=.ok c d/\∀f,a1 f (enc e) c)
def ym(k:IntKind)(b:List (U×U))(n:Int)(v:U)(a:List (U×U)):Prop:=∃(α:Type) (l:List (Int×α)) (enc:α->U) (x:α),b=bo k enc l/\v=enc x/\(enc x).closed=true/\a=bo k enc (bW l n x)
def B3(k:IntKind)(a:List (U×U))(n:Int):Prop:=∃(α:Type) (l:List (Int×α)) (enc:α->U),a=bo k enc l/\n=l.length
variable {enc:α->U}{k:IntKind}
def lk{P:Program}{E:Nat}(l:List (Int×α))(n:Int)(a:α)(b:∀w,∃v,(zeroValue E).run P w=.ok v w/\∀I,a1 I (enc a) v):B2 P E k (bo k enc l) n (enc ((aO l n).getD a)) (aO l n).isSome:=⟨α,l,enc,a,rfl,rfl,rfl,b⟩
def nh(l:List (Int×α))(n:Int)(x:α)(a:(enc x).closed=true):ym k (bo k enc l) n (enc x) (bo k enc (bW l n x)):=⟨α,l,enc,x,rfl,rfl,a,rfl⟩
def lm(l:List (Int×α)):B3 k (bo k enc l) (l.length:Int):=⟨α,l,enc,rfl,rfl⟩
def Fk:Nat->List (List U)->Prop
 |0,xs=>xs.length<=maxLen
 |n+1,xs=>xs.length<=maxLen/\∀b∈xs,∀c a,U.bn c a∈b->Fk n a
def j3(xs:List (List U)):Prop:=∀a,Fk a xs
def j3.len{xs:List (List U)}(h:j3 xs):xs.length<=maxLen:=h 0
def fv{n:Int}(b : -9223372036854775808<=n)(a:n<=9223372036854775807):a2 n=n:=GK b a
def cI{e:e9 α}(h:l[j]?=some x)(a:j3 (bc e l)):U.int .i64 (IntKind.wrap .i64 ((j:Int)+1))=.int .i64 ((j+1:Nat):Int):=by
 obtain⟨b,_⟩:=k0.1 h;have a:=a.len;rw[lR]at a;unfold maxLen at a;rw[show IntKind.wrap .i64 ((j:Int)+1)=(j:Int)+1 from GK (by omega) (by omega)];rfl
def si{hi:Int}(b : -9223372036854775808<=i)(h:i<hi)(a:hi<=9223372036854775807):U.int .i64 (IntKind.wrap .i64 (i+1))=.int .i64 (i+1):=by
 rw[show IntKind.wrap .i64 (i+1)=i+1 from GK (by omega) (by omega)]
def bk(e:e9 α)(l:List α):U.int .i64 ((bc e l).length:Int)=.int .i64 (l.length:Int):=by rw[lR]
def qE{α:Type}(a:α->α->Int)(x:α):List α->List α
 |[]=>[x]
 |y::r=>if a y x<0 then y::qE a x r else x::y::r
def m8{α:Type}(a:α->α->Int):List α->List α
 |[]=>[]
 |x::r=>qE a x (m8 a r)
def qF{α:Type}(b:α->α->Int):List α->Bool
 |a::c::r=>decide (b a c<0)&&qF b (c::r)
 |_=>true
def kg{α:Type}(a:α->α->Int)(l:List α):Option (List α):=bif qF a (m8 a l)&&decide (l.length<4611686018427387904)then some (m8 a l)else none
def Ce{α:Type}(a:α->α->Int)(x:α):∀l:List α,(qE a x l).Perm (x::l)
 |[]=>.refl _
 |y::r=>by
  simp only[qE];split
  .exact((Ce a x r).cons y).trans (.swap x y r)
  .exact .refl _
def x2{α:Type}(a:α->α->Int):∀l:List α,(m8 a l).Perm l
 |[]=>.refl _
 |x::r=>(Ce a x _).trans ((x2 a r).cons x)
def Kt{α:Type}{d:α->α->Int}(f:∀a b c,d a b<0->d b c<0->d a c<0):∀{l:List α},qF d l=true->l.Pairwise λa b=>d a b<0
 |[],_=>.nil
 |[x],_=>by simp
 |a::b::r,h=>by
  simp only[qF,b9,eY]at h;have g:=Kt f h.2;rw[fI];refine⟨λi e=>?_,g⟩;rcases c5.1 e with rfl|e
  .exact h.1
  .exact f _ _ _ h.1 ((fI.1 g).1 i e)
def WO{d:α->α->Int}(f:∀a b c,d a b<0->d b c<0->d a c<0)(h:kg d l=some m):m.Perm l/\(m.Pairwise λa b=>d a b<0)/\l.length<4611686018427387904:=by
 unfold kg at h;cases e:(qF d (m8 d l)&&decide (l.length<4611686018427387904))with
 |false=>rw[e]at h;cases h
 |true=>
  rw[e]at h;cases h
  simp only[b9,eY]at e;exact⟨x2 d l,Kt f e.1,e.2⟩
theorem KG{α:Type}{f:α->α->Int}:∀{d m:List α},d.Perm m->(m.Pairwise λa b=>f a b<0)->(d.Pairwise λa b=>¬f b a<0)->d=m
 |[],m,c,_,_=>c.symm.eq_nil.symm
 |x::d,[],c,_,_=>by have:=c.eq_nil;cases this
 |x::d,y::m,c,h1,e=>by
  rw[fI]at h1 e;have g:x=y:=by
   refine zG λh=>?_;have i:x∈m:=by grind
   grind
  subst g;rw[KG (List.Perm.cons_inv c) h1.2 e.2]
def eF{α:Type}:List (α->Int)->α->α->Int
 |[],_,_=>0
 |k::r,a,b=>if k a<k b then -1 else if k b<k a then 1 else eF r a b
def uY(k:α->Int)(r:List (α->Int))(a b:α):eF (k::r) a b<0↔k a<k b\/k a=k b/\eF r a b<0:=by
 simp only[eF];omega
def KH{α:Type}:∀(l:List (α->Int)) (a:α),¬eF l a a<0
 |[],_=>by simp[eF]
 |k::r,a=>by rw[uY];intro b;rcases b with b|b;omega;exact KH r a b.2
def sP{α:Type}:∀(l:List (α->Int)) (a b c:α),eF l a b<0->eF l b c<0->eF l a c<0
 |[],_,_,_=>by simp[eF]
 |k::r,a,b,c=>by
  simp only[uY];intro e d;rcases e with e|e<;>rcases d with d|d
  .omega
  .omega
  .omega
  .exact .inr ⟨by omega,sP r a b c e.2 d.2⟩
def KI{α:Type}:∀(l:List (α->Int)) (a b c:α),¬eF l a b<0->¬eF l b c<0->¬eF l a c<0
 |[],_,_,_=>by simp[eF]
 |k::r,a,b,c=>by
  simp only[uY];intro j f d;rcases d with d|⟨d,g⟩
  .omega
  .by_cases m:k a<k b
   .omega
   by_cases n:k b<k c
   .omega
   have h:k a=k b:=by omega
   have i:k b=k c:=by omega
   exact KI r a b c (λe=>j (.inr ⟨h,e⟩)) (λe=>f (.inr ⟨i,e⟩)) g
def wk{α:Type}(l:List α)(i:Int)(x:α):Option (List α):=if(0<=i/\i<=l.length)/\l.length+1<=aY then some (l.take i.toNat++x::l.drop i.toNat)else none
def qG{α:Type}(l:List α)(i j:Int):Option (List α):=if 0<=i/\i<j/\j<=l.length then some (l.take i.toNat++l.drop j.toNat)else none
def WT(h:wk l i x=some m):(0<=i/\i<=l.length)/\l.length+1<=549755813888/\l.take i.toNat++x::l.drop i.toNat=m:=by
 unfold wk at h;split at h
 .rename_i a;cases h;exact⟨a.1,a.2,rfl⟩
 .cases h
theorem WU{j:Int}(h:qG l i j=some m):(0<=i/\i<j/\j<=l.length)/\l.take i.toNat++l.drop j.toNat=m:=by
 unfold qG at h
 grind
end
section
variable {au:Bool}
inductive yl where
 |int (k:IntKind)
 |bool
 |str
 |slice (E sz bytes:Nat) (zs:hD)
 |map (K E:Nat) (k:IntKind)
 |struct (zs:hD) (b7:List (Nat×Nat)) (aje:List Bool)
 |gF
structure rF where
 sz:Nat
 b5:Bool
 zs:Option (List Value)
 kd:yl
def iN(P:Program)(T:Nat):yl->Prop
 |.int k=>P.underlying T=some (.int k)
 |.bool=>P.underlying T=some .bool
 |.str=>P.underlying T=some .string
 |.slice E a bytes d=>lJ P T E a/\DC P T E a bytes/\uj P T E a d
 |.map K E k=>hs P T K E k
 |.struct d c g=>zY P T d c/\(∀f b a,c[f]?=some (b,a)->zX P T f b)/\∀f b a e,c[f]?=some (b,a)->g[f]?=some e->v8 P T f b a e
 |.gF=>True
structure Dm(P:Program)(T:Nat)(i:rF):Prop where
 ty:hl P T i.sz i.b5
 P9:∀zs,i.zs=some zs->∀w,∃z,(zeroValue T).run P w=.ok z w/\z.cells=zs.toArray
 kd:iN P T i.kd
abbrev eX:=List (Nat×rF)
def eX.get:eX->Nat->Option rF
 |[],_=>none
 |(k,v)::r,n=>bif Nat.beq k n then some v else eX.get r n
def gI(P:Program):eX->Prop
 |[]=>True
 |(k,v)::r=>Dm P k v/\gI P r
def gI.get{P:Program}:∀{bu:eX} {T:Nat} {i:rF},gI P bu->bu.get T=some i->Dm P T i
 |[],_,_,_,h=>by simp[eX.get]at h
 |(k,v)::r,T,i,H,h=>by
  simp only[eX.get]at h;cases O:Nat.beq k T<;>rw[O]at h
  .exact gI.get H.2 h
  .simp only[cm,ee]at h;have:k=T:=by simpa using O
   subst this h;exact H.1
structure gM(P:Program)(bu:eX):Prop where
 mix:P.follows .mixedOrders=true
 tys:gI P bu
structure a3(P:Program)(f:FuncId):Prop where
 h:∀(args:ig) (w:World),(callFunc f args).run P w=.ok (.enter f args) w
variable {α:Type}
theorem eN{c:Bool}{x:Option α}{y:α}(h:(bif c then x else none)=some y):c=true/\x=some y:=by grind
def HK:b4->Prop
 |.slice _ _ xs _ _=>∀c∈xs,lu c=true
 |.map _ _ b=>∀a∈b,a.1.gW=true/\a.2.gW=true
 |_=>False
def pl:ah->Prop
 |[]=>True
 |p::r=>HK p.2/\pl r
def Dn(a:U):Prop:=∀(I:a8) (β:Nat->Value) b,aD I β a b->∃e d c,b=.slice (some e) d c
theorem Cy{f:Bool}{xs:List (List U)}(h:xs≠[]):Dn (.bn f xs):=λI β g a=>by
 simp only[aD,a1]at a;obtain⟨c,e,rfl,_,_,_,b|⟨d,o,rfl,_⟩⟩:=a
 .exact absurd b h
 .grind
def Cz:Dn .gj:=λI β d a=>by
 simp only[aD,a1]at a;obtain⟨b,c,rfl,_⟩:=a;exact⟨_,_,_,rfl⟩
abbrev cb:=List U×ah
inductive cf where
 |y (R:cR) (bN:U)
 |v (d:Nat) (aeo:b4) (bN:U)
 |e (M news:cR) (bN:U) (ad9:ah)
def eu(G:bI)(o:Oper)(env:av)(σ:ah):cf->Prop
 |.y c b=>Yields G o env.ev σ [] c b
 |.v a f b=>G.ids.contains a=false/\Yields G o env.ev ((a,f)::σ) [a] [a] b
 |.e M news b e=>fO G o env.ev σ M news (λd g=>d=b/\g=e)/\news.all (λa=>!G.ids.contains a)=true
inductive Hint(P:Program)(au:Bool):Type where
 |z6
 |al (d:Nat)
 |to (h:Hint P au) (a b:U) (e:a=b)
 |ix (sz:Nat) (xs:List (List U)) (i:Int) (row:List U) (aeQ:rD sz xs i row)
 |lo (d sz:Nat) (xs:List (List U)) (i:Int) (off:Nat) (row:List U) (aeQ:rD sz xs i row)
 |so (d sz:Nat) (xs:List (List U)) (i:Int) (off:Nat) (ca:List U) (zs:List (List U)) (aeQ:B4 sz xs i off ca zs) (k:Nat) (hk:(k:Int)<=i)
 |rf (f:FuncId) (caps cM:List U) (r:U) (aeQ:bb au P f [] (cM++caps) r) (ag:a3 P f)
 |ro (am9:Nat) (f:FuncId) (σs:ah) (cM:List U) (r:U) (aeQ:bb au P f σs cM r) (ag:a3 P f)
 |le (cq:cR) (f:FuncId) (cM:List U) (r:U) (aeQ:bb au P f [] cM r) (ag:a3 P f)
 |ji (news:cR) (f:FuncId) (ch:ah) (cM:List U) (r:U) (σ2:ah) (aeQ:cz au P f ch cM (λa ad9=>a=r/\ad9=σ2)) (ag:a3 P f)
 |dl (cq news:cR) (f:FuncId) (cM:List U) (r:U) (σ2:ah) (aeQ:cz au P f [] cM (λa ad9=>a=r/\ad9=σ2)) (ag:a3 P f) (al5:pl σ2)
 |gs (wR:Bool) (ex:cb) (f:cR->Op->av->ah->Option (cf×cb)) (aeQ:∀(o:Oper) (N:Nat) (ids:cR) (env:av) (σ:ah) (s:cf) (aeo:cb),f ids o.op env σ=some (s,aeo)->aeo=ex->eu ⟨P,N,ids,au⟩ o env σ s)
 |ap (d2 sz bytes:Nat) (xs ys zs:List (List U)) (aeQ:B0 sz bytes xs ys zs)
 |ws (d2 sz:Nat) (xs:List (List U)) (a:Int) (zs:List (List U)) (aeQ:nr sz xs a xs.length zs)
 |sl (sz:Nat) (xs:List (List U)) (a b:Int) (zs:List (List U)) (aeQ:nr sz xs a b zs)
 |qr (n:Int) (aeQ:n≠0)
 |sh (n:Int) (aeQ:0<=n)
 |is (s:ByteArray) (n:Int) (b:UInt8) (aeQ:0<=n/\s[n.toNat]?=some b)
 |lk (E:Nat) (k:IntKind) (bG:List (U×U)) (n:Int) (a:U) (b:Bool) (aeQ:B2 P E k bG n a b)
 |nh (k:IntKind) (bG:List (U×U)) (n:Int) (v:U) (aiC:List (U×U)) (aeQ:ym k bG n v aiC)
 |lm (k:IntKind) (bG:List (U×U)) (n:Int) (aeQ:B3 k bG n)
 |xT (neg:Bool) (T:Nat) (a b:U) (r:Bool) (aeQ:∀(x y:Operand) w,(do eqGuard (bif neg then .neq else .eql) T x y (valOf a) (valOf b);binOp (bif neg then .neq else .eql) T (valOf a) (valOf b):Sem Value).run P w=.ok (.bool r) w)
 |kH (neg:Bool) (a:U) (aeQ:Dn a)
 |s3 (sz:Nat) (xs:List (List U)) (a b:Int) (zs:List (List U)) (aeQ:nr sz xs a b zs)
 |pu (T aZ:Nat) (a r:U) (aeQ:∀(o:Oper) (N:Nat) (ids:cR) (ev:Operand->U) (σ:ah) (x:Operand),o.op=.convert T aZ x->ev x=a->Yields ⟨P,N,ids,au⟩ o ev σ [] [] r)
 |pb (op:BinOp) (T:Nat) (a b r:U) (aeQ:∀(o:Oper) (N:Nat) (ids:cR) (ev:Operand->U) (σ:ah) (x y:Operand) (aZ:Nat),o.op=.binOp op T x y aZ->ev x=a->ev y=b->Yields ⟨P,N,ids,au⟩ o ev σ [] [] r)
def Hint.exp{P:Program}:Hint P au->cb
 |.z6|.al _=>([],[])
 |.to h a _ _=>(a::h.exp.1,h.exp.2)
 |.ix _ xs i _ _=>([.bn false xs,.int .i64 i],[])
 |.lo d sz xs i off _ _=>([.bn false xs,.ptr d (i.toNat*sz+off)],[])
 |.so d sz xs i off O _ _ _ _=>([.bn false xs,.ptr d (i.toNat*sz+off),.agg O],[])
 |.rf f caps cM _ _ _=>(.fn f caps::cM,[])
 |.ro _ f σs cM _ _ _=>(.fn f []::cM,σs)
 |.le _ f cM _ _ _=>(.fn f []::cM,[])
 |.ji _ f Q cM _ _ _ _=>(.fn f []::cM,Q)
 |.dl _ _ f cM _ _ _ _ _=>(.fn f []::cM,[])
 |.gs _ ex _ _=>ex
 |.ap _ _ _ xs S _ _=>([.bn false xs,.bn false S],[])
 |.ws _ _ xs a _ _=>([.bn false xs,.int .i64 a],[])
 |.sl _ xs a b _ _=>([.bn false xs,.int .i64 a,.int .i64 b],[])
 |.qr n _|.sh n _=>([.int .i64 n],[])
 |.is s n _ _=>([.str s,.int .i64 n],[])
 |.lk _ _ H n _ _ _=>([.int .i64 n],[(0,.map 0 0 H)])
 |.nh _ H n v _ _=>([.int .i64 n,v],[(0,.map 0 0 H)])
 |.lm _ H _ _=>([],[(0,.map 0 0 H)])
 |.xT _ _ a b _ _=>([a,b],[])
 |.kH _ a _=>([a],[])
 |.s3 _ xs a b _ _=>([.bn false xs,.int .i64 a,.int .i64 b,.int .i64 b],[])
 |.pu _ _ a _ _=>([a],[])
 |.pb _ _ a b _ _=>([a,b],[])
mutual
def o3:U->U
 |.bn true xs=>.bn false xs
 |.aF=>.bn false []
 |.agg cs=>.agg (Gp cs)
 |a=>a
def Gp:List U->List U
 |[]=>[]
 |x::r=>o3 x::Gp r
end
mutual
def FD{σ:ah}:∀a:U,gp σ a (o3 a)
 |.bn true xs=>.full xs
 |.aF=>.nil false
 |.agg cs=>.agg (Ku cs)
 |.bn false _|.dH|.undef|.int _ _|.bool _|.str _|.dI _|.gT|.gj|.iY _|.own _|.ptr _ _|.cc _|.cD _ _|.bO _|.fn _ _|.cU _ _|.dK _|.gr _|.arr _=>.refl _
def Ku{σ:ah}:∀l:List U,jR σ l (Gp l)
 |[]=>.nil
 |x::r=>.cons (FD x) (Ku r)
end
variable {G:bI}{o:Oper}{σ:ah}
def Yields.off{ev:Operand->U}{c7 R:cR}{bN:U}(h:Yields G o (λx=>o3 (ev x)) σ c7 R bN):Yields G o ev σ c7 R bN:=
 λO cx I β w S X H Y hop=>h O cx I β w S X H Y λx Q=>(FD (ev x)).rep H _ (hop x Q)
def fO.off{ev:Operand->U}{M news:cR}{Φ:U->ah->Prop}(h:fO G o (λx=>o3 (ev x)) σ M news Φ):fO G o ev σ M news Φ:=
 λcx I β w Q H hop=>h cx I β w Q H λx O=>(FD (ev x)).rep H _ (hop x O)
def zK:List (Nat×U)->List (Nat×U)
 |[]=>[]
 |p::r=>(p.1,o3 p.2)::zK r
def Gq{ev:Operand->U}:∀l:List (Nat×Operand),zK (l.map λp=>(p.1,ev p.2))=l.map λp=>(p.1,o3 (ev p.2))
 |[]=>rfl
 |p::r=>by simp only[dr,zK,Gq r]
mutual
def gR(b:cR)(σ:ah):U->Option U
 |.own d=>bif b.contains d then some (.own d)else match σ.get d with
  |some (.slice _ _ xs _ true)=>some (.bn false xs)
  |some (.win _ _ xs)=>some (.bn false xs)
  |_=>none
 |.cc d=>bif b.contains d then some (.cc d)else match σ.get d with
  |some (.jY _ _ c)=>some (.dK c)
  |_=>some (.cc d)
 |.aF=>some (.bn false [])
 |.gj=>some (.bn false [])
 |.bn true xs=>some (.bn false xs)
 |.agg cs=>match rA b σ cs with|none=>none|some l=>some (.agg l)
 |.bO cs=>match rA b σ cs with|none=>none|some l=>some (.bO l)
 |.fn f cs=>match rA b σ cs with|none=>none|some l=>some (.fn f l)
 |a=>some a
def rA(a:cR)(σ:ah):List U->Option (List U)
 |[]=>some []
 |x::r=>match gR a σ x with
  |none=>none
  |some b=>match rA a σ r with
   |none=>none
   |some l=>some (b::l)
end
mutual
def nW{i:cR}{σ:ah}:∀{a b:U},gR i σ a=some b->gp σ a b
 |.own d,b,h=>by
  simp only[gR]at h;cases g:i.contains d with
  |true=>rw[g]at h;simp only[cm,ee]at h;subst h;exact .refl _
  |false=>
   rw[g]at h;simp only[bH]at h;split at h
   .rename_i e;simp only[ee]at h;subst h;exact .own e
   .rename_i e;simp only[ee]at h;subst h;exact .win e
   .cases h
 |.cc d,b,h=>by
  simp only[gR]at h;cases g:i.contains d with
  |true=>rw[g]at h;simp only[cm,ee]at h;subst h;exact .refl _
  |false=>
   rw[g]at h;simp only[bH]at h;split at h
   .rename_i e;simp only[ee]at h;subst h;exact .jY e
   .cases h;exact .refl _
 |.dK _,b,h|.gr _,b,h|.arr _,b,h|.iY _,b,h=>by simp only[gR,ee]at h;subst h;exact .refl _
 |.aF,b,h=>by simp only[gR,ee]at h;subst h;exact .nil false
 |.gj,b,h=>by simp only[gR,ee]at h;subst h;exact .gj
 |.bn true xs,b,h=>by simp only[gR,ee]at h;subst h;exact .full xs
 |.agg cs,b,h=>by
  simp only[gR]at h;split at h
  .cases h
  .rename_i j c;simp only[ee]at h;subst h;exact .agg (yh c)
 |.bO cs,b,h=>by
  simp only[gR]at h;split at h
  .cases h
  .rename_i j c;simp only[ee]at h;subst h;exact .bO (yh c)
 |.fn f cs,b,h=>by
  simp only[gR]at h;split at h
  .cases h
  .rename_i j c;simp only[ee]at h;subst h;exact .fn (yh c)
 |.bn false _,b,h|.dH,b,h|.undef,b,h|.int _ _,b,h|.bool _,b,h|.str _,b,h|.dI _,b,h|.gT,b,h|.ptr _ _,b,h|.cD _ _,b,h|.cU _ _,b,h=>by
  simp only[gR,ee]at h;subst h;exact .refl _
def yh{e:cR}{σ:ah}:∀{a b:List U},rA e σ a=some b->jR σ a b
 |[],b,h=>by simp only[rA,ee]at h;subst h;exact .nil
 |x::r,b,h=>by
  simp only[rA]at h;split at h
  .cases h
  .rename_i a d;split at h
   .cases h
   .rename_i f c;simp only[ee]at h;subst h
    exact .cons (nW d) (yh c)
end
def ah.at(σ:ah):cR->Option ah
 |[]=>some []
 |d::r=>match σ.get d with
  |none=>none
  |some o=>match ah.at σ r with
   |none=>none
   |some l=>some ((d,o)::l)
def aFq{σ:ah}:∀{b:cR} {l:ah},σ.at b=some l->ov σ l/\l.ids=b
 |[],l,h=>by simp only[ah.at,ee]at h;subst h;exact⟨trivial,rfl⟩
 |d::r,l,h=>by
  simp only[ah.at]at h;split at h
  .cases h
  .rename_i o c;split at h
   .cases h
   .rename_i g f;simp only[ee]at h;subst h
    obtain⟨e,a⟩:=aFq f;exact⟨⟨c,e⟩,by simp only[ah.ids,dr]at a ⊢;rw[a]⟩
def nm(f:U->Option U):List U->Option (List U)
 |[]=>some []
 |x::r=>match f x with
  |none=>none
  |some a=>match nm f r with
   |none=>none
   |some l=>some (a::l)
def oa:Nat->ah->U->Option U
 |0,_,_=>none
 |n+1,σ,a=>match a with
  |.own d=>(match σ.get d with|some (.slice _ _ xs _ _)=>some (.bn false xs)|some (.win _ _ xs)=>some (.bn false xs)|_=>none)
  |.ptr d p=>(match σ.get d with
   |some (.cells _ cs)=>(match nm (oa n σ) (cs.drop p)with|none=>none|some l=>some (.dI l))
   |_=>none)
  |.aF=>some (.bn false [])
  |.bn true xs=>some (.bn false xs)
  |.agg cs=>(match nm (oa n σ) cs with|none=>none|some l=>some (.agg l))
  |.bO cs=>(match nm (oa n σ) cs with|none=>none|some l=>some (.bO l))
  |.fn f cs=>(match nm (oa n σ) cs with|none=>none|some l=>some (.fn f l))
  |.cc d=>(match σ.get d with|some (.map _ _ b)=>some (.dK b)|some (.jY _ _ b)=>some (.dK b)|some (.gl _ _ _ _ b)=>some (.dK b)|_=>none)
  |.cU _ _=>none
  |.gj=>some (.bn false [])
  |a=>some a
def u3{f:U->Option U}{I J:a8}{β:Nat->Value}(e:∀a b,f a=some b->∀v,aD I β a v->a1 J b v):∀{l m:List U},nm f l=some m->∀vs,bD I β l vs->bP J m vs
 |[],m,h,vs,c=>by simp only[nm,ee]at h;subst h;exact c
 |x::r,m,h,vs,c=>by
  simp only[nm]at h;split at h
  .cases h
  .rename_i a j;split at h
   .cases h
   .rename_i l i;simp only[ee]at h;subst h
    simp only[bD]at c;obtain⟨g,d,rfl,n,k⟩:=c;exact⟨g,d,rfl,e x a j g n,u3 e i d k⟩
theorem Gr{G:bI}{cx:dz}{I:a8}{β:Nat->Value}{σ:ah}{w:World}(j:bE G cx I β σ w):∀(n:Nat) (a b:U),oa n σ a=some b->∀v,aD I β a v->a1 (fu w) b v
 |0,a,b,h,_,_=>by cases h
 |n+1,a,b,h,v,c=>by
  have bt:b1 I (fu w):=j.zi;have F:=Gr j n;cases a with
  |own d=>
   simp only[oa]at h;split at h
   .rename_i R Z D k aj g;cases h;simp only[aD]at c;obtain⟨rfl,S⟩:=c;have e:=j.bY d _ g;simp only[bl]at e;simp only[a1];rcases e with i|⟨i,rfl,_⟩|⟨b,aY,arr,z,q,u,V,aa,K,ab,_⟩
    .rw[i]at S;simp[gU]at S
    .grind
    .refine⟨_,aY,z,q,u,by simp,.inr ⟨b,0,rfl,?_⟩⟩;refine uW D 0 _ (k9 bt _ _ K) λY v E=>?_;rw[hR];rw[l8]at E;split at E
     .simp only[fu,World.cell?,V]
      grind
     .cases E
   .rename_i R Z D g;cases h;exact iZ bt _ _ (by simpa only[aD]using j.win g c)
   .cases h
  |ptr d p=>
   simp only[oa]at h;split at h
   .rename_i R A g;split at h
    .cases h
    .rename_i L o;cases h;simp only[aD]at c;obtain⟨X,T,rfl⟩:=c;obtain⟨arr,z,q,u,_⟩:=bE.box j g T;simp only[a1];refine⟨X,p,rfl,?_⟩;have:=u3 (J:=fu w) F o _ (yc p _ _ u);refine Cl L p _ this λY v E=>?_;simp only[fu,World.cell?,q]
     grind
   .cases h
  |aF=>cases h;simp only[aD,a1]at c ⊢;exact⟨none,0,c,by simp,by simp[maxLen],by simp,by simp⟩
  |bn f D=>
   have B:a1 (fu w) (.bn f D) v:=iZ bt _ _ (by simpa only[aD]using c);cases f with
   |false=>cases h;exact B
   |true=>
    cases h;simp only[a1]at B ⊢;obtain⟨a,O,M,N,H,_,x⟩:=B;exact⟨a,O,M,N,H,by simp,x⟩
  |agg A=>
   simp only[oa]at h;split at h
   .cases h
   .rename_i L o;cases h
    simp only[aD]at c;obtain⟨C,rfl,c⟩:=c;simp only[a1];exact⟨C,rfl,u3 F o _ c⟩
  |bO A=>
   simp only[oa]at h;split at h
   .cases h
   .rename_i L o;cases h
    simp only[aD]at c;obtain⟨C,rfl,c⟩:=c;simp only[a1];exact⟨C,rfl,u3 F o _ c⟩
  |fn f A=>
   simp only[oa]at h;split at h
   .cases h
   .rename_i L o;cases h
    simp only[aD]at c;obtain⟨C,rfl,c⟩:=c;simp only[a1];exact⟨C,rfl,u3 F o _ c⟩
  |cc d=>
   have own:∀{r:Nat} {m:iu} {t:Nat} {l:List (U×U)},β d=.map (some r)->w.heap[r]?=some (.map m t)->ey I l m.toList->iP m t->aD I β (.cc d) v->a1 (fu w) (.dK l) v:=by
    intro r m t l B M N H x;simp only[aD]at x;obtain⟨rfl,_⟩:=x;simp only[a1];exact⟨r,m,t,B,by simp only[fu,M],qa bt _ _ N,H⟩
   have y:l3 (β d)=true:=by simp only[aD]at c;obtain⟨rfl,i⟩:=c;exact i
   simp only[oa]at h;split at h
   .rename_i Q P l g;cases h;have e:=j.bY d _ g;simp only[bl]at e;rcases e with i|⟨r,m,t,z,q,u,_,_,K⟩
    .rw[i]at y;simp[l3]at y
    .grind
   .rename_i Q P l g;cases h;have e:=j.bY d _ g;simp only[bl]at e;rcases e with i|⟨r,m,t,z,q,u,_,K⟩
    .rw[i]at y;simp[l3]at y
    .obtain⟨ae,ag,H,x⟩:=j.fA r _ q;obtain⟨rfl,rfl⟩:=F8 x
     grind
   .rename_i m t Q P l g;cases h;have e:=j.bY d _ g;simp only[bl]at e;rcases e with i|⟨r,z,q,u,_,_,K⟩
    .rw[i]at y;simp[l3]at y
    .grind
   .cases h
  |dK l=>cases h;exact iZ bt _ _ (by simpa only[aD]using c)
  |gr l=>cases h;exact iZ bt _ _ (by simpa only[aD]using c)
  |arr D=>cases h;exact iZ bt _ _ (by simpa only[aD]using c)
  |iY b=>cases h;exact iZ bt _ _ (by simpa only[aD]using c)
  |cU k d=>cases h
  |gj=>
   cases h;simp only[aD,a1]at c ⊢;obtain⟨a,O,c,W⟩:=c;exact⟨some a,O,c,by simp,W,by simp,by simp⟩
  |cD f A=>cases h;exact iZ bt _ _ (by simpa only[aD]using c)
  |dH=>cases h;simp[a1]
  |undef=>cases h;exact iZ bt _ _ (by simpa only[aD]using c)
  |int k n=>cases h;exact iZ bt _ _ (by simpa only[aD]using c)
  |bool b=>cases h;exact iZ bt _ _ (by simpa only[aD]using c)
  |str s=>cases h;exact iZ bt _ _ (by simpa only[aD]using c)
  |dI A=>cases h;exact iZ bt _ _ (by simpa only[aD]using c)
  |gT=>cases h;exact iZ bt _ _ (by simpa only[aD]using c)
def tE(n:Nat)(σ:ah)(a:U):Option U:=match oa n σ a with
 |some (.fn f l)=>some (.cD f l)
 |x=>x
variable {I:a8}{β:Nat->Value}
def Mf{cx:dz}{w:World}(d:bE G cx I β σ w)(n:Nat)(a b:U)(h:tE n σ a=some b)(v:Value)(c:aD I β a v):a1 (fu w) b v:=by
 unfold tE at h;split at h
 .rename_i f g e;cases h;have:=Gr d n a _ e v c;simpa only[a1]using this
 .exact Gr d n a _ h v c
def bP.H7:∀{l:List U} {vs:hD},bP I l vs->bD I β l vs:=λh=>bP.rep β _ _ h
variable {agl:Operand}{args:Array Operand}{cM ps:List U}{env:av}{f:FuncId}{k:Array TypeId}{r:U}{σs:ah}
def aGE{aY:List U}(n:Nat)(h:o.op=.call ⟨.value agl,args,k⟩)(A:env.ev agl=.fn f aY)
    (N:∀(args:ig) (w:World),(callFunc f args).run G.P w=.ok (.enter f args) w) (aB:bb G.au G.P f [] cM r) (x:env.lE args.toList=some ps) (u:nm (tE n σs) (ps++aY)=some cM) (z:ov σ σs)
    (v:r.gW=true):Yields G o env.ev σ [] σs.ids r:=by
  intro g R I β w B E d _ p;have e:=p agl (by simp[h,Op.operands,Call.operands]);rw[A]at e;simp only[aD]at e;obtain⟨Z,e,M⟩:=e;rw[yJ h e N]
  have K:∀a o,σs.get a=some o->g.get a=some o:=λa o b=>by
    obtain⟨q,i,j,C⟩:=nX σs a o b;rw[E a (by rw[<-j];exact dg.2 ⟨q,i,rfl⟩),<-j,<-C];exact z.mem q i
  have pW:=d.sub K;have l:=nT _ _ _ _ (u2 env.ev B args.toList λW y=>p W (by simp only[h,Op.operands,Call.operands];simp;right;simpa using y)) M;rw[aFD x]at l;have O:=u3 (J:=fu w) (Mf pW n) u _ l
  have D:bE ⟨G.P,0,[],G.au⟩ (kC (fu w) β [] w) (fu w) β [] w:=
    {good:=yg,fA:=x9,fV:=b1.refl _,gm:=λ_ _ _ _=>rfl,frame:=λ_ _ _=>rfl,size:=eb _,tape:=rfl,os:=rfl,output:=rfl,drawn:=eb _,
     bY:=λa o b=>by simp[ah.get]at b,cQ:=λa Y b=>by simp[ah.get]at b,tab:=λm=>((d.tab m).mono d.fV).mono d.zi,keep:=λa b=>by simp at b}
  refine hV (aB _ w (fu w) β _ D O.H7) ?_;rintro m V ⟨s,S,T,ab,X,aa,⟨P,L⟩,F,c⟩;subst P L;have H:bE G R I β g V:=d.stay (λQ t=>c.frame Q t (by simp[kC,rq,ah.ids])) c.size c.tape c.os c.output c.drawn;exact⟨s,S,I,β,aD.gW T s v F,H,b1.refl I,λ_ _=>rfl⟩
mutual
def U.l9:U->Bool
 |.int _ _=>true
 |.bool _=>true
 |.str _=>true
 |.undef=>true
 |.own _=>true
 |.cc _=>true
 |.bO cs=>zl cs
 |.agg cs=>zl cs
 |_=>false
def zl:List U->Bool
 |[]=>true
 |x::r=>x.l9&&zl r
end
mutual
def aD.l9{I S:a8}{β:Nat->Value}:∀(a:U) (v:Value),a.l9=true->aD I β a v->aD S β a v
 |.int _ _,v,_,h=>by simpa only[aD,a1]using h
 |.bool _,v,_,h=>by simpa only[aD,a1]using h
 |.str _,v,_,h=>by simpa only[aD,a1]using h
 |.undef,v,_,h=>by simpa only[aD,a1]using h
 |.own d,v,_,h=>by simpa only[aD]using h
 |.cc d,v,_,h=>by simpa only[aD]using h
 |.bO cs,v,H,h=>by
  simp only[aD,U.l9]at h H ⊢;obtain⟨vs,Q,O⟩:=h;exact⟨vs,Q,bD.l9 cs _ H O⟩
 |.agg cs,v,H,h=>by
  simp only[aD,U.l9]at h H ⊢;obtain⟨vs,Q,O⟩:=h;exact⟨vs,Q,bD.l9 cs _ H O⟩
 |.dH,_,H,_|.bn _ _,_,H,_|.dI _,_,H,_|.fn _ _,_,H,_|.aF,_,H,_|.gT,_,H,_|.ptr _ _,_,H,_|.cD _ _,_,H,_|.gj,_,H,_|.iY _,_,H,_|.cU _ _,_,H,_=>by simp[U.l9]at H
def bD.l9{I X:a8}{β:Nat->Value}:∀(a:List U) (v:hD),zl a=true->bD I β a v->bD X β a v
 |[],v,_,h=>h
 |x::r,v,H,h=>by
  simp only[bD,zl,b9]at h H ⊢;obtain⟨u,O,Y,Q,S⟩:=h;exact⟨u,O,Y,aD.l9 x u H.1 Q,bD.l9 r O H.2 S⟩
end
def pl.get:∀{σ:ah} {d:Nat} {o:b4},pl σ->σ.get d=some o->HK o
 |[],_,_,_,h=>by simp[ah.get]at h
 |(x,v)::r,d,o,O,h=>by
  obtain⟨p,X,_,S⟩:=nX ((x,v)::r) d o h;have:∀(σ:ah),pl σ->∀p∈σ,HK p.2:=by
   intro σ;induction σ with
   |nil=>intro _ p H;simp at H
   |cons q r Q=>
    intro O p H;rcases c5.1 H with rfl|H
    .exact O.1
    .exact Q O.2 p H
  rw[<-S];exact this _ O p X
def jM(e:e9 α)(b:∀x,lu (e.enc x)=true)(l:List α):∀r∈bc e l,lu r=true:=λr a=>by
 obtain⟨x,_,rfl⟩:=dg.1 a;exact b x
def KA:∀{a b:List U},lu a=true->lu b=true->lu (a++b)=true
 |[],_,_,h=>h
 |x::r,b,c,d=>by
  simp only[l6,lu,b9]at c ⊢;exact⟨c.1,KA c.2 d⟩
def Kv:∀{xs:List (List U)},(∀e∈xs,lu e=true)->lu xs.flatten=true
 |[],_=>rfl
 |x::r,h=>by
  rw[kk];exact KA (h x (by simp)) (Kv λe a=>h e (by simp[a]))
mutual
def a1.gW{I S:a8}:∀(a:U) (v:Value),a.gW=true->a1 I a v->a1 S a v
 |.int _ _,v,_,h=>by simpa only[a1]using h
 |.bool _,v,_,h=>by simpa only[a1]using h
 |.str _,v,_,h=>by simpa only[a1]using h
 |.undef,v,_,h=>by simpa only[a1]using h
 |.bO cs,v,H,h=>by
  simp only[a1,U.gW]at h H ⊢;obtain⟨vs,Q,O⟩:=h;exact⟨vs,Q,bP.gW cs _ H O⟩
 |.agg cs,v,H,h=>by
  simp only[a1,U.gW]at h H ⊢;obtain⟨vs,Q,O⟩:=h;exact⟨vs,Q,bP.gW cs _ H O⟩
 |.dH,_,H,_|.bn _ _,_,H,_|.dI _,_,H,_|.fn _ _,_,H,_|.aF,_,H,_|.gT,_,H,_|.own _,_,H,_|.ptr _ _,_,H,_|.cc _,_,H,_|.cD _ _,_,H,_|.gj,_,H,_|.iY _,_,H,_|.cU _ _,_,H,_=>by simp[U.gW]at H
def bP.gW{I X:a8}:∀(a:List U) (v:hD),lu a=true->bP I a v->bP X a v
 |[],v,_,h=>h
 |x::r,v,H,h=>by
  simp only[bP,lu,b9]at h H ⊢;obtain⟨u,O,Y,Q,S⟩:=h;exact⟨u,O,Y,a1.gW x u H.1 Q,bP.gW r O H.2 S⟩
end
def ey.gW{I Z:a8}:∀(l:List (U×U)) (es:jN),(∀p∈l,p.1.gW=true/\p.2.gW=true)->ey I l es->ey Z l es
 |[],es,_,h=>h
 |(k,v)::r,es,H,h=>by
  simp only[ey]at h ⊢;obtain⟨e,O,aa,S,X,Y⟩:=h;exact⟨e,O,aa,a1.gW k _ (H (k,v) (by simp)).1 S,a1.gW v _ (H (k,v) (by simp)).2 X,ey.gW r O (λp Q=>H p (by simp[Q])) Y⟩
def Ll:∀σ:ah,ah.minus [] σ=σ
 |[]=>rfl
 |(d,o)::r=>by simp only[ah.minus,List.contains_nil,bH,Ll r]
theorem aGs{aY:List U}{σ2:ah}(n:Nat)(news:cR)(h:o.op=.call ⟨.value agl,args,k⟩)(R:env.ev agl=.fn f aY)
    (ao:∀(args:ig) (w:World),(callFunc f args).run G.P w=.ok (.enter f args) w) (aB:cz G.au G.P f [] cM (λa t=>a=r/\t=σ2)) (N:env.lE args.toList=some ps) (L:nm (tE n σs) (ps++aY)=some cM) (P:ov σ σs)
    (aA:news.all (λd=>!G.ids.contains d&&(σ.get d).isNone)=true) (Y:σ.clean news.contains=true) (M:r.l9=true) (am:r.refs (λd=>!news.contains d)=false) (u:σ2.clean (λd=>!news.contains d)=true) (ax:pl σ2) :
    fO G o env.ev σ news news (λa t=>a=r/\t=σ2++σ):=by
  intro aT I β w V j C;have p:=C agl (by simp[h,Op.operands,Call.operands]);rw[R]at p;simp only[aD]at p;obtain⟨aV,p,an⟩:=p;rw[yJ h p ao]
  have pW:=j.sub (σ2:=σs) λd o e=>by
    obtain⟨aG,aa,ab,W⟩:=nX σs d o e;rw[<-ab,<-W];exact P.mem aG aa
  have z:=nT _ _ _ _ (u2 env.ev V args.toList λaH O=>C aH (by simp only[h,Op.operands,Call.operands];simp;right;simpa using O)) an;rw[aFD N]at z;have aq:=u3 (J:=fu w) (Mf pW n) L _ z
  have X:bE ⟨G.P,0,[],G.au⟩ (kC (fu w) β [] w) (fu w) β [] w:=
    {good:=yg,fA:=x9,fV:=b1.refl _,gm:=λ_ _ _ _=>rfl,frame:=λ_ _ _=>rfl,size:=eb _,tape:=rfl,os:=rfl,output:=rfl,drawn:=eb _,
     bY:=λd o e=>by simp[ah.get]at e,cQ:=λd aR e=>by simp[ah.get]at e,tab:=λs=>((j.tab s).mono j.fV).mono j.zi,keep:=λd e=>by simp at e}
  refine hV (aB _ w (fu w) β _ X aq.H7) ?_;rintro s F ⟨m,aC,v,H,T,aI,⟨ar,ay⟩,aj,l⟩;subst ar ay;have A:∀b,b<w.heap.size->F.heap[b]?=w.heap[b]?:=λb c=>l.frame b c (by simp[kC,rq])
  have y:∀b,Place (kC (fu w) β [] w) b->w.heap.size<=b:=λb c=>by
    rcases c with c|c
    · exact c
    · simp[kC,rq]at c
  have aE:bE ⟨G.P,0,[],G.au⟩ (kC I β [] w) (λb o=>if b<w.heap.size then I b o else T b o) aI H F:=
    {good:=λb o m i=>by
        by_cases c:b<w.heap.size
        · simp only[c,fE]at i
          have h1:=j.good b o m i;rw[World.cell?_of_block (w:=w) (A b c)];exact h1
        · simp only[c,h0]at i
          exact l.good b o m i
     fA:=λb m i=>by
        by_cases c:b<w.heap.size
        · simp only[c,fE]at i
          obtain⟨es,clock,h1,u⟩:=j.fA b m i
          grind
        · simp only[c,h0]at i
          exact l.fA b m i
     fV:=λb o m i=>by
        have Q:b<w.heap.size:=j.abn i;simp only[Q,fE];exact i
     gm:=λb c _ o=>by
        have c:b<w.heap.size:=c;simp only[c,fE];rfl
     frame:=λb c _=>A b c
     size:=l.size,tape:=l.tape,os:=l.os,output:=l.output,drawn:=l.drawn
     bY:=λd o e=>by
        have q:=l.bY d o e;have g:=ax.get e;cases o with
        |slice aJ aU xs aK aN=>
          simp only[bl]at q ⊢;rcases q with D|D|⟨b,aY,arr,ad8,aea,aeA,aeE,aeX,aff,afF,afZ,agn,agI,ae⟩
          · grind
          · grind
          · have c:=y b ae
            have az:¬b<w.heap.size:=by omega
            refine .inr (.inr ⟨b,aY,arr,ad8,aea,aeA,aeE,aeX,bP.gW _ _ (Kv g) aff,afF,afZ,?_,?_,.inl c⟩)
            all_goals grind
        |cells _ _=>exact absurd g id
        |map K E aL=>
          simp only[bl]at q ⊢;rcases q with D|⟨r,es,clock,ad8,aea,aeA,aeE,aeX,aff⟩
          · grind
          · have c:=y r aeX
            have az:¬r<w.heap.size:=by omega
            refine .inr ⟨r,es,clock,ad8,aea,ey.gW _ _ g aeA,λo=>?_,.inl c,aff⟩
            grind
        |win _ _ _=>exact absurd g id
        |jY _ _ _=>exact absurd g id
        |gl _ _ _ _ _=>exact absurd g id
        |iter _ _ _ _=>exact absurd g id
        |hdr _ _=>exact absurd g id
        |de _=>exact absurd g id
        |hM _ _ _ _=>exact absurd g id
        |oA _ _ _ _ _ _=>exact absurd g id
        |fL _ _ _ _ _ _=>exact absurd g id
        |qc _ _ _=>exact absurd g id
        |vec _ _=>exact absurd g id
        |tC _ _ _ _=>exact absurd g id
        |eo _ _ _ _ _ _=>exact absurd g id
     cQ:=l.cQ,tab:=λs=>(j.tab s).mono j.fV,keep:=λd e=>by simp at e}
  have aw:∀d∈news,d∉G.ids/\σ.get d=none:=λd e=>by
    have:=gE.1 aA d e;simpa using this
  have B:σ.minus (ah.ids [])=σ:=Ll σ;obtain⟨x,Z,ag⟩:=j.after (ch:=[]) (by simp) aE news aw (by rw[B];exact Y) (by simpa [ah.ids]using u);rw[B]at x;refine⟨m,aC,v,_,_,_,⟨rfl,rfl⟩,ag v m (by simpa [ah.ids]using am) (aD.l9 v m M aj),x,Z,λd e=>by simp[e],λd e=>?_⟩;rw[aFy];cases S:H.get d with
  |some ak=>
    have:=(aFi u d ak S).1;have:news.contains d=true:=by rw[<-qz];exact this
    exact absurd (ua.1 this) e
  |none=>rfl
def Dp(op:BinOp)(k:IntKind)(m n:Int):Option U:=match op with
 |.add=>some (.int k (k.wrap (m+n)))
 |.sub=>some (.int k (k.wrap (m-n)))
 |.mul=>some (.int k (k.wrap (m*n)))
 |.lss=>some (.bool (decide (m<n)))
 |.leq=>some (.bool (decide (m<=n)))
 |.gtr=>some (.bool (decide (n<m)))
 |.geq=>some (.bool (decide (n<=m)))
 |.eql=>some (.bool (decide (m=n)))
 |.neq=>some (.bool (!decide (m=n)))
 |.and=>some (.int k (bT .and k m n))
 |.or=>some (.int k (bT .or k m n))
 |.xor=>some (.int k (bT .xor k m n))
 |.andNot=>some (.int k (bT .andNot k m n))
 |_=>none
def OF(bu:eX)(env:av)(σ:ah)(c:Call):Option (cR×U):=match c.callee with
 |.builtin b=>(match b with
  |.len=>(match c.args.toList with
   |[x]=>(match c.argTypes.toList with
    |[e]=>(match bu.get e with
     |some ⟨_,_,_,.slice _ _ _ _⟩=>(match env.cn x with
      |some (.bn _ a)=>some ([],.int .i64 (a.length:Int))
      |some .aF=>some ([],.int .i64 0)
      |some (.own d)=>(match σ.get d with|some (.slice _ _ a _ _)=>some ([d],.int .i64 (a.length:Int))|some (.win _ _ a)=>some ([d],.int .i64 (a.length:Int))|_=>none)
      |_=>none)
     |some ⟨_,_,_,.str⟩=>(match env.cn x with|some (.str f)=>some ([],.int .i64 (f.size:Int))|_=>none)
     |_=>none)
    |_=>none)
   |_=>none)
  |.min=>(match c.args.toList with
   |[x,y]=>(match env.cn x with
    |some (.int k m)=>(match env.cn y with|some (.int _ n)=>some ([],.int k (if n<m then n else m))|_=>none)
    |_=>none)
   |_=>none)
  |.max=>(match c.args.toList with
   |[x,y]=>(match env.cn x with
    |some (.int k m)=>(match env.cn y with|some (.int _ n)=>some ([],.int k (if n>m then n else m))|_=>none)
    |_=>none)
   |_=>none)
  |_=>none)
 |_=>none
def Ib(bu:eX)(env:av)(σ:ah):Op->Option (cR×U)
 |.move x|.assign x=>match env.cn x with|none=>none|some a=>some ([],a)
 |.pick c x y=>match env.cn c with
  |some (.bool true)=>(match env.cn x with|none=>none|some a=>some ([],a))
  |some (.bool false)=>(match env.cn y with|none=>none|some a=>some ([],a))
  |_=>none
 |.fieldAddr e x f=>match bu.get e with
  |some ⟨_,_,_,.struct _ g _⟩=>(match g[f]? with
   |none=>none
   |some (off,_)=>match env.cn x with
    |some (.ptr d p)=>some ([],.ptr d (p+off))
    |some (.dI cs)=>(match spine (cs.drop off)with|none=>none|some l=>some ([],.dI l))
    |_=>none)
  |_=>none
 |.field e x f=>match bu.get e with
  |some ⟨_,_,_,.struct _ g q⟩=>(match g[f]? with
   |none=>none
   |some (off,n)=>match q[f]? with
    |none=>none
    |some r=>match env.cn x with
     |some (.agg cs)=>bif Nat.ble (off+n) cs.length then(match kS r n (cs.drop off)with|none=>none|some a=>some ([],a))else none
     |_=>none)
  |_=>none
 |.load e x=>match bu.get e with
  |none=>none
  |some i=>match env.cn x with
   |some (.ptr d p)=>(match σ.get d with
    |some (.cells _ cs)=>bif (i.b5||Nat.blt 0 i.sz)&&Nat.ble (p+i.sz) cs.length then(match kS i.b5 i.sz (cs.drop p)with|none=>none|some a=>some ([d],a))else none
    |_=>none)
   |some (.dI cs)=>bif (i.b5||Nat.blt 0 i.sz)&&Nat.ble i.sz cs.length then(match kS i.b5 i.sz cs with|none=>none|some a=>some ([],a))else none
   |_=>none
 |.binOp op e x y _=>match env.cn x with
  |some (.int k m)=>(match env.cn y with
   |some (.int h n)=>bif decide (k=h)then(match Dp op k m n with|none=>none|some a=>some ([],a))else none
   |_=>none)
  |some (.bool a)=>(match bu.get e with
   |some ⟨_,_,_,.bool⟩=>(match env.cn y with
    |some (.bool b)=>(match op with
     |.eql=>some ([],.bool (a==b))
     |.neq=>some ([],.bool (!(a==b)))
     |_=>none)
    |_=>none)
   |_=>none)
  |_=>none
 |.unOp op _ x=>match op with
  |.not=>(match env.cn x with|some (.bool b)=>some ([],.bool (!b))|_=>none)
  |.neg=>(match env.cn x with|some (.int k n)=>some ([],.int k (k.wrap (0-n)))|_=>none)
  |_=>none
 |.convert e o x=>match bu.get e with
  |some ⟨_,_,_,.int _⟩=>(match bu.get o with
   |some ⟨_,_,_,.int h⟩=>(match env.cn x with|some (.int _ n)=>some ([],.int h (h.wrap n))|_=>none)
   |_=>none)
  |_=>none
 |.extract x s=>match env.cn x with
  |some (.bO t)=>(match t[s]? with|none=>none|some a=>some ([],a))
  |_=>none
 |.nilCheck x=>match env.cn x with
  |some (.ptr d p)=>some ([],.ptr d p)
  |some (.dI cs)=>some ([],.dI cs)
  |_=>none
 |.build e parts=>match bu.get e with
  |some ⟨_,_,_,.struct u g _⟩=>(match env.ou parts.toList with
   |none=>none
   |some ps=>match v9 g (l0 u) ps with|none=>none|some cs=>some ([],.agg cs))
  |_=>none
 |.buildSlice e len parts=>match bu.get e with
  |some ⟨_,_,_,.slice _ j _ _⟩=>bif Nat.beq parts.size len&&(Nat.ble (len*j) 65536&&Nat.ble len 65536)then(match env.ou parts.toList with
   |none=>none
   |some ps=>match rt j 0 (zK ps)with
    |none=>none
    |some xs=>bif i1 xs.flatten then some ([],.bn true xs)else none)else none
  |_=>none
 |.makeFunc fn first aY=>match fn with
  |.func f=>(match first.toList with
   |[]=>(match env.lE aY.toList with|none=>none|some l=>some ([],.fn f l))
   |_=>none)
  |_=>none
 |.call c=>OF bu env σ c
 |_=>none
end
section
variable {au:Bool}
section
variable {P:Program}{N:Nat}{ids:cR}{bu:eX}{o:Oper}{env:av}{σ:ah}
variable {G:bI}{T:TypeId}{k:IntKind}{x:Operand}
def aGM{ev:Operand->U}{n:Int}(h:o.op=.unOp .neg T x)(b:ev x=.int k n):Yields G o ev σ [] [] (.int k (k.wrap (0-n))):=
 .pure λ_ _ d g f e _ _ c=>by
  have a:=c x (by simp[h,Op.operands]);rw[b]at a;have a:=g1 a
  exact⟨.int k (k.wrap (0-n)),by simp only[execOp,h,a,Op.unary,Op.intArith];rfl,by simp[aD,a1]⟩
variable {aZ:TypeId}{m:Int}
def aGC{ev:Operand->U}{y:Operand}{n:Int}(h:o.op=.binOp .quo T x y aZ)(a:ev x=.int k m)(b:ev y=.int k n)(c:n≠0):Yields G o ev σ [] [] (.int k (k.wrap (m.tdiv n))):=
 bB.int h a b (by decide) (λd=>by simp[Op.intDiv,c];rfl) (λ_ _=>by simp only[aD,a1])
def ts(xs:List (List U)):xs.map id=xs:=List.map_id xs
theorem aHh{o:Oper}{ev:Operand->U}{σ:ah}{T E sz len d:Nat}{parts:Array (Nat×Operand)}{zs:hD}{xs:List (List U)}(h:o.op=.buildSlice T len parts)(n:uj G.P T E sz zs)(t:parts.size=len)(aa:len*sz<=65536/\len<=65536)
  (D:qe sz 0 (parts.toList.map λp=>(p.1,ev p.2))=some xs) (H:i1 xs.flatten=true) (hi:G.ids.contains d=false):Yields G o ev ((d,.slice E sz xs 0 false)::σ) [d] [d] (.own d):=by
 intro Z ak I β b g F q W X;have V:∀p∈parts.toList,aD I β (ev p.2) (g p.2):=λp C=>X p.2 (by simp only[h,Op.operands];simpa using ⟨p.1,by simpa using C⟩);obtain⟨m,L,ag⟩:=n.zero b
 let a:ig:=(Array.range (len*sz)).map ((if len*sz=0 then #[]else m.cells)[·%(if len*sz=0 then #[]else m.cells:ig).size]!)
 have Q:a.size=len*sz:=by simp[a]
 obtain⟨l,u,J,ae,aj,v,O,N⟩:=B5 (I:=I) (β:=β) sz (parts.toList.map λp=>(p.1,ev p.2)) (parts.toList.map λp=>(p.1,g p.2)) 0 a xs
  ⟨by simp,λY p am c i=>by
   simp only[l7]at c i;cases e:parts.toList[Y]? with
   |none=>rw[e]at c;cases c
   |some y=>
    rw[e]at c i;simp only[iS,ee]at c i;subst c i;exact⟨rfl,V y (nw e)⟩⟩ D (by simp[Q,t])
 have z:l.toList=u:=by simp_all
 have w:xs.length=len:=by rw[N];simp[t]
 have K:(execOp g o).run G.P b=.ok (.value (.slice (some ⟨b.heap.size,0,none⟩) len len)) (b.alloc (.cells l E)):=by
  have R:¬(len*sz>2 ^ 24):=by have:(2:Nat) ^ 24=16777216:=by decide
                              omega
  have f:Instr.fill (λs=>some (s*sz,sz)) a (parts.map λ(s,x)=>(s,g x)).toList=some l:=by simpa using J
  simp only[execOp,h,Instr.buildSlice,fD,ja n.fz,n.size,gQ,R,h0];by_cases k:len*sz=0
  .have r:a=(Array.range (len*sz)).map ((#[]:ig)[·%(#[]:ig).size]!):=by simp only[a,k,fE]
   rw[r]at f;simp only[k,fE,fD,jq,gQ]at f ⊢;simp only[f];simp[newRow]
  .have r:a=(Array.range (len*sz)).map (m.cells[·%m.cells.size]!):=by simp only[a,k,h0]
   rw[r]at f;simp only[k,h0,fD,L,jq,gQ];simp only[f];simp[newRow]
 rw[K];have M:=W d (by simp);have A:=O;have P:=p4 xs A;have B:u.length=xs.length*sz:=by rw[nS _ _ v,P]
 refine⟨I,gA β d (.slice (some ⟨b.heap.size,0,none⟩) len len),by simp only[aD];exact⟨(gb _ _ _).symm,rfl⟩,?_,b1.refl I,λx e=>gx β _ (λS=>e (by simp[S]))⟩;refine q.real (by simpa using hi) M rfl λab j=>?_;rw[F d (by simp),aFc,bx rfl]at j;injection j with j
 subst j;simp only[bl,gb];refine .inr (.inr ⟨b.heap.size,len,l,by rw[w],by omega,by simp only[maxLen];omega,pf b _,?_,?_,A,by omega,(λh=>by cases h),λo _=>q.ij (eb _) o,.inl q.size⟩)
 .rw[<-kr,z,B,w]
 .rw[z,qt (by rw[B];exact eb _)];exact bD.closed _ _ H v
def aG8{ev:Operand->U}{e:Operand}{args:Array Operand}{k:Array TypeId}{f:FuncId}{aY n:List U}{σs:ah}{r:U}(h:o.op=.call ⟨.value e,args,k⟩)(B:ev e=.cD f aY)
  (M:∀(args:ig) (w:World),(callFunc f args).run G.P w=.ok (.enter f args) w) (A:∀p∈σs,σ.get p.1=some p.2) (u:jR σs (args.toList.map ev) n)
  (aB:bb G.au G.P f [] (n++aY) r) (v:r.closed=true):Yields G o ev σ [] σs.ids r:=by
 intro i R t c w C H d _ q;have b:=q e (by simp[h,Op.operands,Call.operands]);rw[B]at b;simp only[aD,a1]at b;obtain⟨Z,b,L⟩:=b;rw[yJ h b M]
 have J:∀a o,σs.get a=some o->i.get a=some o:=λa o g=>by
  obtain⟨p,l,m,D⟩:=nX σs a o g;rw[H a (by rw[<-m];exact dg.2 ⟨p,l,rfl⟩),<-m,<-D];exact A p l
 have pW:=d.sub J;have N:=u2 ev C args.toList λx y=>q x (by simp only[h,Op.operands,Call.operands];simp;right;simpa using y);have O:=nT _ _ _ _ (u.rep pW _ N) (bP.rep c _ _ L);have E:=d.mQ (P:=G.P) (ch:=[]) (by simp);refine hV (aB _ w t c _ E O) ?_;rintro Y W ⟨s,T,V,ab,j,aa,⟨Q,K⟩,I,F⟩;subst Q K;obtain⟨S,z,X⟩:=d.after (ch:=[]) (by simp) F [] (by simp) (aFL _) rfl;refine⟨s,T,j,c,?_,?_,z,λ_ _=>rfl⟩
 .exact a1.rep c _ _ (aD.closed V s v I)
 .refine({S with}:bE G R j c ([]++i.minus (ah.ids [])) W).sub λa o g=>?_;rw[aFy,aFh];simpa [ah.get,ah.ids]using g
variable {afS:IntKind}{gX:Array TypeId}
def aGK{ev:Operand->U}{y:Operand}{n:Int}(h:o.op=.call ⟨.builtin .min,#[x,y],gX⟩)(d:ev x=.int k m)(e:ev y=.int afS n):Yields G o ev σ [] [] (.int k (if n<m then n else m)):=
 .pure λ_ _ f j i g _ _ c=>by
  have b:=c x (by simp[h,Op.operands,Call.operands]);rw[d]at b;have b:=g1 b
  have a:=c y (by simp[h,Op.operands,Call.operands]);rw[e]at a;have a:=g1 a
  exact⟨.int k (if n<m then n else m),by simp[execOp,h,resolve,invoke,builtin,Builtin.min_,Builtin.min2,b,a],by simp[aD,a1]⟩
def aGJ{ev:Operand->U}{y:Operand}{n:Int}(h:o.op=.call ⟨.builtin .max,#[x,y],gX⟩)(d:ev x=.int k m)(e:ev y=.int afS n):Yields G o ev σ [] [] (.int k (if n>m then n else m)):=
 .pure λ_ _ f j i g _ _ c=>by
  have b:=c x (by simp[h,Op.operands,Call.operands]);rw[d]at b;have b:=g1 b
  have a:=c y (by simp[h,Op.operands,Call.operands]);rw[e]at a;have a:=g1 a
  exact⟨.int k (if n>m then n else m),by simp[execOp,h,resolve,invoke,builtin,Builtin.max_,Builtin.max2,b,a],by simp[aD,a1]⟩
def ZM{op:BinOp}{y:Operand}{n:Int}{a:U}(h:o.op=.binOp op T x y aZ)(b:env.ev x=.int k m)(c:env.ev y=.int k n)(d:Dp op k m n=some a):Yields ⟨P,N,ids,au⟩ o env.ev σ [] [] a:=by
 cases op<;>simp only[Dp,ee]at d<;>first|cases d|skip
 all_goals (try subst d)
 .exact aHd h b c
 .exact aGN h b c
 .exact aGL h b c
 .exact bB.and h b c
 .exact bB.or h b c
 .exact bB.xor h b c
 .exact bB.andNot h b c
 .exact bB.eql h b c
 .exact bB.neq h b c
 .exact bB.lss h b c
 .exact bB.leq h b c
 .exact bB.gtr h b c
 .exact bB.geq h b c
theorem abq(W:gM P bu){R:cR}{bN:U}(h:Ib bu env σ o.op=some (R,bN)):Yields ⟨P,N,ids,au⟩ o env.ev σ [] R bN:=by
 cases b:o.op<;>rw[b]at h<;>simp only[Ib]at h
 case move x=>
  cases a:env.cn x with
  |none=>rw[a]at h;cases h
  |some p=>rw[a]at h;cases h;rw[<-aFb a];exact bB.move b
 case assign x=>
  cases a:env.cn x with
  |none=>rw[a]at h;cases h
  |some p=>rw[a]at h;cases h;rw[<-aFb a];exact bB.assign b
 case pick c x y=>
  split at h
  .rename_i t;cases a:env.cn x with
   |none=>rw[a]at h;cases h
   |some p=>rw[a]at h;cases h;rw[<-aFb a];exact aG9 b (aFb t) rfl
  .rename_i t;cases a:env.cn y with
   |none=>rw[a]at h;cases h
   |some p=>rw[a]at h;cases h;rw[<-aFb a];exact aHa b (aFb t) rfl
  .cases h
 case fieldAddr T x H=>
  split at h
  .rename_i ae Y M ak Z O f;split at h
   .cases h
   .rename_i z q l;have d:=(gI.get W.tys f).kd;simp only[iN]at d;split at h
    .rename_i G A a;cases h;exact aGy b (aFb a) (d.2.1 _ _ _ l)
    .rename_i i a;cases g:spine (i.drop z)with
     |none=>rw[g]at h;cases h
     |some aa=>rw[g]at h;cases h;rw[<-qd g];exact aGz b (aFb a) (d.2.1 _ _ _ l)
    .cases h
  .cases h
 case field T x H=>
  split at h
  .rename_i ae Y M ak Z O f;split at h
   .cases h
   .rename_i z q l;split at h
    .cases h
    .rename_i V X;have d:=(gI.get W.tys f).kd;simp only[iN]at d;split at h
     .rename_i i a;cases e:Nat.ble (z+q) i.length with
      |false=>rw[e]at h;cases h
      |true=>
       rw[e]at h;simp only[cm]at h;cases g:kS V q (i.drop z)with
       |none=>rw[g]at h;cases h
       |some p=>rw[g]at h;cases h;exact a4.field b (aFb a) (d.2.2 _ _ _ _ l X) e g
     .cases h
  .cases h
 case load T x=>
  split at h
  .cases h
  .rename_i n f;have d:=(gI.get W.tys f).ty;split at h
   .rename_i G A a;split at h
    .rename_i aZ i v;cases e:((n.b5||Nat.blt 0 n.sz)&&Nat.ble (A+n.sz) i.length)with
     |false=>rw[e]at h;cases h
     |true=>
      rw[e]at h;simp only[cm]at h;simp only[b9]at e;cases g:kS n.b5 n.sz (i.drop A)with
      |none=>rw[g]at h;cases h
      |some p=>rw[g]at h;cases h;exact aG1 b (aFb a) d v e.1 e.2 g
    .cases h
   .rename_i i a;cases e:((n.b5||Nat.blt 0 n.sz)&&Nat.ble n.sz i.length)with
    |false=>rw[e]at h;cases h
    |true=>
     rw[e]at h;simp only[cm]at h;simp only[b9]at e;cases g:kS n.b5 n.sz i with
     |none=>rw[g]at h;cases h
     |some p=>rw[g]at h;cases h;exact aGY b (aFb a) d e.1 e.2 g
   .cases h
 case binOp op T x y aZ=>
  split at h
  .rename_i k m a;split at h
   .rename_i afS q r;cases E:decide (k=afS)with
    |false=>rw[E]at h;cases h
    |true=>
     rw[E]at h;simp only[cm]at h;have:=fF E;subst this;cases e:Dp op k m q with
     |none=>rw[e]at h;cases h
     |some p=>rw[e]at h;cases h;exact ZM b (aFb a) (aFb r) e
   .cases h
  .rename_i p a;split at h
   .rename_i f;have d:=(gI.get W.tys f).kd;simp only[iN]at d;split at h
    .rename_i J r;split at h
     .cases h;exact aGw b (aFb a) (aFb r) d
     .cases h;exact aGx b (aFb a) (aFb r) d
     .cases h
    .cases h
   .cases h
  .cases h
 case unOp op T x=>
  split at h
  .split at h
   .rename_i J a;cases h;exact bB.not b (aFb a)
   .cases h
  .split at h
   .rename_i k q a;cases h;exact aGM b (aFb a)
   .cases h
  .cases h
 case convert T aZ x=>
  split at h
  .rename_i f;split at h
   .rename_i afS S;split at h
    .rename_i k q a;cases h
     have K:=(gI.get W.tys f).kd;have I:=(gI.get W.tys S).kd;simp only[iN]at K I;exact bB.convert b (aFb a) ⟨_,K⟩ I
    .cases h
   .cases h
  .cases h
 case extract x j=>
  split at h
  .rename_i aj a;cases C:aj[j]? with
   |none=>rw[C]at h;cases h
   |some p=>rw[C]at h;cases h;exact bB.extract b (aFb a) C
  .cases h
 case nilCheck x=>
  split at h
  .rename_i G A a;cases h;exact aHe b (aFb a)
  .rename_i i a;cases h;exact aHf b (aFb a)
  .cases h
 case build T parts=>
  split at h
  .rename_i f;have d:=(gI.get W.tys f).kd;simp only[iN]at d;split at h
   .cases h
   .rename_i ab B;split at h
    .cases h
    .rename_i i l;cases h;exact a4.build b d.1 B l
  .cases h
 case buildSlice T len parts=>
  split at h
  .rename_i f;have d:=(gI.get W.tys f).kd;simp only[iN]at d
   replace h:=eN h;obtain⟨e,h⟩:=h
   rw[b9]at e;split at h
   .cases h
   .rename_i ab B;split at h
    .cases h
    .rename_i w l;cases t:i1 w.flatten with
     |false=>rw[t]at h;cases h
     |true=>rw[t]at h;cases h;exact(bB.buildSlice b d.2.2 (by simpa using e.1) (by simpa using e.2) (by rw[<-Gq,aFF B];exact BU _ l) t).off
  .cases h
 case makeFunc fn first aY=>
  split at h
  .rename_i H;split at h
   .rename_i l;split at h
    .cases h
    .rename_i aa L;cases h
     have:first=#[]:=by simpa using l
     subst this;exact a4.makeFunc b L
   .cases h
  .cases h
 case call c=>
  obtain⟨am,args,ag⟩:=c;simp only[OF]at h;split at h
  .rename_i J;split at h
   .split at h
    .rename_i x u;have:args=#[x]:=oj.1 (by simpa using u);subst this;split at h
     .rename_i T Q;have:ag=#[T]:=oj.1 (by simpa using Q);subst this;split at h
      .rename_i f;have d:=(gI.get W.tys f).kd;simp only[iN]at d;split at h
       .rename_i H w a;cases h;exact aGb (rs:=w) (enc:=id) b rfl (by rw[ts];exact aFb a) d.1.fz
       .rename_i a;cases h;exact aGH b rfl (aFb a) d.1.fz
       .rename_i G a;split at h
        .rename_i v;cases h;exact aG3 (enc:=id) b rfl (aFb a) (by rw[ts];exact v) d.1.fz
        .rename_i w v;cases h;exact Yields.win v (aGb (rs:=w) (enc:=id) b rfl (by rw[ts];exact Lk (aFb a)) d.1.fz)
        .grind
       .cases h
      .rename_i f;have d:=(gI.get W.tys f).kd;simp only[iN]at d;split at h
       .rename_i s a;cases h;exact aGI b rfl (aFb a) d
       .cases h
      .cases h
     .cases h
    .cases h
   .split at h
    .rename_i F D u;have:args=#[F,D]:=oj.1 (by simpa using u);subst this;split at h
     .rename_i k m a;split at h
      .rename_i afS q r;cases h;exact aGK b (aFb a) (aFb r)
      .cases h
     .cases h
    .cases h
   .split at h
    .rename_i F D u;have:args=#[F,D]:=oj.1 (by simpa using u);subst this;split at h
     .rename_i k m a;split at h
      .rename_i afS q r;cases h;exact aGJ b (aFb a) (aFb r)
      .cases h
     .cases h
    .cases h
   .cases h
  .cases h
 all_goals cases h
end
end
section
variable {au:Bool}
def tF(env:av)(c:Call):Option (FuncId×List U):=match c.callee with
 |.value a=>(match env.cn a with
  |some (.fn f aY)=>(match env.lE c.args.toList with|none=>none|some b=>some (f,b++aY))
  |_=>none)
 |_=>none
def yU{env:av}{c:Call}{f:FuncId}{b:List U}(h:tF env c=some (f,b)):∃a args k aY ps,c=⟨.value a,args,k⟩/\env.ev a=.fn f aY/\env.lE args.toList=some ps/\b=ps++aY:=by
 obtain⟨i,args,k⟩:=c;simp only[tF]at h;split at h
 .rename_i a;split at h
  .rename_i g aY e;split at h
   .cases h
   .rename_i ps d;cases h
    exact⟨a,args,k,aY,ps,rfl,aFb e,d,rfl⟩
  .cases h
 .cases h
def HL(env:av)(c:Call):Option (FuncId×List U×List U):=match c.callee with
 |.value a=>(match env.cn a with
  |some (.cD f aY)=>(match env.lE c.args.toList with|none=>none|some b=>some (f,b,aY))
  |_=>none)
 |_=>none
def X0{env:av}{c:Call}{f:FuncId}{b d:List U}(h:HL env c=some (f,b,d)):∃a args k,c=⟨.value a,args,k⟩/\env.ev a=.cD f d/\env.lE args.toList=some b:=by
 obtain⟨j,args,k⟩:=c;simp only[HL]at h;split at h
 .rename_i a;split at h
  .rename_i i aY g;split at h
   .cases h
   .rename_i l e;cases h
    exact⟨a,args,k,rfl,aFb g,e⟩
  .cases h
 .cases h
def H2:U->Option U
 |.fn f l=>bif i1 l then some (.cD f l)else none
 |a=>some a
def ZN{σ:ah}{a b c:U}(h:gp σ a b)(d:H2 b=some c):gp σ a c:=by
 cases b<;>simp only[H2,ee]at d<;>first|(subst d;exact h)|skip
 rename_i f g;cases e:i1 g with
 |false=>rw[e]at d;cases d
 |true=>rw[e]at d;cases d;exact .cD h e
def vM(σ:ah):Nat->List U->Option (List U)
 |_,[]=>some []
 |m,x::r=>match(bif Nat.beq (m%2) 1 then some x else match gR [] σ x with|none=>none|some a=>H2 a)with
  |none=>none
  |some a=>match vM σ (m / 2) r with
   |none=>none
   |some l=>some (a::l)
def Gs{σ:ah}:∀{m:Nat} {a b:List U},vM σ m a=some b->jR σ a b
 |m,[],b,h=>by simp only[vM,ee]at h;subst h;exact .nil
 |m,x::r,b,h=>by
  simp only[vM]at h;split at h
  .cases h
  .rename_i a c;split at h
   .cases h
   .rename_i i e;simp only[ee]at h;subst h
    refine .cons ?_ (Gs e);cases d:Nat.beq (m%2) 1 with
    |true=>rw[d]at c;cases c;exact .refl _
    |false=>
     rw[d]at c;simp only[bH]at c;split at c
     .cases c
     .rename_i g f;exact ZN (nW f) c
def nB(env:av)(d:Int):Option Operand->ir
 |none=>some d
 |some x=>match env.cn x with|some (.int _ n)=>some n|_=>none
def GN{env:av}{x:Option Operand}{n:Int}(h:nB env 0 x=some n):rG env.ev x/\jc env.ev x=n:=by
 cases x with
 |none=>simp only[nB,ee]at h;exact⟨trivial,h⟩
 |some x=>
  simp only[nB]at h;split at h
  .rename_i k b a;cases h;exact⟨⟨k,_,aFb a⟩,by simp only[jc,aFb a]⟩
  .cases h
def GO{env:av}{l:Nat}{x:Option Operand}{n:Int}(h:nB env (l:Int) x=some n):rG env.ev x/\nA env.ev l x=n:=by
 cases x with
 |none=>simp only[nB,ee]at h;exact⟨trivial,h⟩
 |some x=>
  simp only[nB]at h;split at h
  .rename_i k b a;cases h;exact⟨⟨k,_,aFb a⟩,by simp only[nA,aFb a]⟩
  .cases h
def I3(env:av)(σ:ah)(bu:eX):Op->Option cf
 |.store c x y=>match bu.get c with
  |none=>none
  |some i=>match env.cn x with
   |some (.ptr d p)=>(match env.cn y with
    |none=>none
    |some a=>match σ.get d with
     |some (.cells e cs)=>(match n1 a with
      |none=>none
      |some b=>bif a.flat&&Nat.beq b.length i.sz&&Nat.ble (p+i.sz) cs.length then(match spine (gy cs p b)with
       |none=>none
       |some f=>some (.e [d] [] .undef (σ.set d (.cells e f))))else none)
     |_=>none)
   |_=>none
 |_=>none
def sk(bu:eX)(ids:cR)(env:av)(d:Nat):Op->Option cf
 |.alloc b=>match bu.get b with
  |some ⟨_,_,some zs,_⟩=>(match spine (l0 zs)with|none=>none|some cs=>bif !ids.contains d then some (.v d (.cells b cs) (.ptr d 0))else none)
  |_=>none
 |.box b x=>match env.cn x with
  |none=>none
  |some a=>match n1 a with
   |none=>none
   |some cs=>bif a.flat&&!a.refs (Nat.beq d)&&!ids.contains d then some (.v d (.cells b cs) (.ptr d 0))else none
 |.buildSlice b len parts=>match bu.get b with
  |some ⟨_,_,_,.slice E c _ _⟩=>bif Nat.beq parts.size len&&(Nat.ble (len*c) 65536&&Nat.ble len 65536)&&!ids.contains d then(match env.ou parts.toList with
   |none=>none
   |some e=>match rt c 0 (zK e)with
    |none=>none
    |some xs=>bif i1 xs.flatten then some (.v d (.slice E c xs 0 false) (.own d))else none)else none
  |_=>none
 |.makeMap b none=>match bu.get b with
  |some ⟨_,_,_,.map K E _⟩=>bif !ids.contains d then some (.v d (.map K E []) (.cc d))else none
  |_=>none
 |_=>none
def D2(bu:eX)(env:av)(σ:ah)(sz:Nat)(row:List U):Op->Option (cf×cb)
 |.indexAddr b x y=>match bu.get b with
  |some ⟨_,_,_,.slice _ a _ _⟩=>(match env.cn y with
   |some (.int _ i)=>(match env.cn x with
    |some (.bn _ xs)=>(match spine row with
     |none=>none
     |some r=>bif Nat.beq a sz then some (.y [] (.dI r),([.bn false xs,.int .i64 i],[]))else none)
    |some (.own d)=>(match σ.get d with
     |some (.slice _ c xs _ _)=>bif Nat.beq a sz&&Nat.beq c sz then some (.y [d] (.ptr d (i.toNat*sz)),([.bn false xs,.int .i64 i],[]))else none
     |some (.win _ _ xs)=>(match spine row with
      |none=>none
      |some r=>bif Nat.beq a sz then some (.y [d] (.dI r),([.bn false xs,.int .i64 i],[]))else none)
     |_=>none)
    |_=>none)
   |_=>none)
  |_=>none
 |_=>none
def Ea(bu:eX)(env:av)(σ:ah)(d sz off:Nat)(row:List U):Op->Option (cf×cb)
 |.load c x=>match bu.get c with
  |none=>none
  |some i=>match env.cn x with
   |some (.ptr b p)=>(match σ.get d with
    |some (.slice _ e xs _ _)=>bif Nat.beq b d&&Nat.beq e sz&&(i.b5||Nat.blt 0 i.sz)&&Nat.ble (off+i.sz) sz then(match kS i.b5 i.sz (row.drop off)with
     |none=>none
     |some a=>some (.y [d] a,([.bn false xs,.ptr b p],[])))else none
    |_=>none)
   |_=>none
 |_=>none
def EF(bu:eX)(env:av)(σ:ah)(d sz off k:Nat)(zs:List (List U)):Op->Option (cf×cb)
 |.store g x y=>match bu.get g with
  |none=>none
  |some i=>match env.cn x with
   |some (.ptr f p)=>(match env.cn y with
    |none=>none
    |some a=>match n1 (o3 a)with
     |none=>none
     |some b=>match σ.get d with
      |some (.slice h e xs c _)=>bif Nat.beq f d&&Nat.beq e sz&&Nat.beq c k&&(o3 a).flat&&i1 b&&Nat.beq b.length i.sz&&Nat.ble (off+i.sz) sz then
        some (.e [d] [] .undef (σ.set d (.slice h e zs c false)),([.bn false xs,.ptr f p,.agg b],[]))else none
      |_=>none)
   |_=>none
 |_=>none
mutual
def U.um:U->cR
 |.own d=>[d]
 |.agg cs=>vN cs
 |.bO cs=>vN cs
 |.fn _ cs=>vN cs
 |_=>[]
def vN:List U->cR
 |[]=>[]
 |x::r=>x.um++vN r
end
def Eu(env:av)(σ:ah)(r:U):Op->Option (cf×cb)
 |.call c=>match HL env c with
  |none=>none
  |some (f,a,d)=>match σ.at (vN a)with
   |none=>none
   |some b=>match vM b 0 a with
    |none=>none
    |some cM=>bif r.closed then some (.y b.ids r,(.fn f d::cM,[]))else none
 |_=>none
def Ex(env:av)(d:Nat)(σ σs:ah)(r:U):Op->Option (cf×cb)
 |.call c=>match tF env c with
  |none=>none
  |some (f,b)=>match σ.at (σs.ids++vN b)with
   |none=>none
   |some a=>match vM a d b with
    |none=>none
    |some cM=>match a.at σs.ids with
     |none=>none
     |some e=>bif r.closed&&σs.clean (λg=>!(σs.ids++[]).contains g)then some (.y a.ids r,(.fn f []::cM,e))else none
 |_=>none
def D6(env:av)(σ:ah)(b:cR)(r:U):Op->Option (cf×cb)
 |.call c=>match tF env c with
  |none=>none
  |some (f,a)=>match σ.at b with
   |none=>none
   |some σs=>match nm (tE 9 σs) a with
    |none=>none
    |some cM=>bif r.gW then some (.y σs.ids r,(.fn f []::cM,[]))else none
 |_=>none
def DM(ids:cR)(env:av)(σ ch:ah)(news:cR)(r:U)(σ2:ah):Op->Option (cf×cb)
 |.call c=>match tF env c with
  |none=>none
  |some (f,b)=>match rA ch.ids σ b with
   |none=>none
   |some cM=>match σ.at ch.ids with
    |none=>none
    |some d=>bif news.all (λa=>!ids.contains a&&(σ.get a).isNone)&&(σ.minus ch.ids).clean news.contains&&!r.refs (λa=>!(ch.ids++news).contains a)&&σ2.clean (λa=>!(ch.ids++news).contains a)then
      some (.e (ch.ids++news) news r (σ2++σ.minus ch.ids),(.fn f []::cM,d))else none
 |_=>none
def DO(ids:cR)(env:av)(σ:ah)(d news:cR)(r:U)(σ2:ah):Op->Option (cf×cb)
 |.call c=>match tF env c with
  |none=>none
  |some (f,b)=>match σ.at d with
   |none=>none
   |some σs=>match nm (tE 9 σs) b with
    |none=>none
    |some cM=>bif news.all (λa=>!ids.contains a&&(σ.get a).isNone)&&σ.clean news.contains&&r.l9&&!r.refs (λa=>!news.contains a)&&σ2.clean (λa=>!news.contains a)then some (.e news news r (σ2++σ),(.fn f []::cM,[]))else none
 |_=>none
def Di(bu:eX)(ids:cR)(env:av)(σ:ah)(d2 sz bytes:Nat)(zs:List (List U)):Op->Option (cf×cb)
 |.call c=>match c.callee with
  |.builtin b=>(match b with
   |.append=>(match c.args.toList with
    |[s,x]=>(match c.argTypes.toList with
     |[i,j]=>(match bu.get i with
      |some ⟨_,_,_,.slice E h m _⟩=>bif Nat.beq i j&&Nat.beq h sz&&Nat.beq m bytes&&!ids.contains d2 then(match env.cn x with
       |none=>none
       |some l=>match gR [] σ l with
        |some (.bn f g)=>(match env.cn s with
         |some (.own d)=>(match σ.get d with
          |some (.slice a e xs k _)=>bif Nat.beq a E&&Nat.beq e sz&&(σ.minus [d]).clean [d2].contains then some (.e [d,d2] [d2] (.own d2) ((d2,.slice a e zs k false)::σ.minus [d]),([.bn false xs,.bn false g],[]))else none
          |some (.win a e xs)=>bif Nat.beq a E&&Nat.beq e sz&&(σ.minus [d]).clean [d2].contains then some (.e [d,d2] [d2] (.own d2) ((d2,.win a e zs)::σ.minus [d]),([.bn false xs,.bn false g],[]))else none
          |_=>none)
         |some .aF=>bif σ.clean [d2].contains then some (.e [d2] [d2] (.own d2) ((d2,.slice E h zs 0 false)::σ),([.bn false [],.bn false g],[]))else none
         |some (.bn true xs)=>bif σ.clean [d2].contains&&Nat.blt 0 g.length then some (.e [d2] [d2] (.own d2) ((d2,.slice E h zs 0 false)::σ),([.bn false xs,.bn false g],[]))else none
         |_=>none)
        |_=>none)else none
      |_=>none)
     |_=>none)
    |_=>none)
   |_=>none)
  |_=>none
 |_=>none
def vO:U->cR
 |.own d=>[d]
 |_=>[]
def Ba(bu:eX)(env:av)(σ:ah)(sz:Nat)(zs:List (List U)):Op->Option (cf×cb)
 |.slice d x h g none=>match bu.get d with
  |some ⟨_,_,_,.slice _ e _ _⟩=>(match env.cn x with
   |none=>none
   |some c=>match gR [] σ c with
    |some (.bn f xs)=>(match nB env 0 h with
     |none=>none
     |some a=>match nB env (xs.length:Int) g with
      |none=>none
      |some b=>bif Nat.beq e sz then some (.y (vO c) (.bn false zs),([.bn false xs,.int .i64 a,.int .i64 b],[]))else none)
    |_=>none)
  |_=>none
 |_=>none
def xO(bu:eX)(env:av)(σ:ah)(sz:Nat)(zs:List (List U)):Op->Option (cf×cb)
 |.slice d x i (some h) (some hT)=>match bu.get d with
  |some ⟨_,_,_,.slice _ g _ _⟩=>(match env.cn x with
   |none=>none
   |some c=>match gR [] σ c with
    |some (.bn f xs)=>(match nB env 0 i with
     |none=>none
     |some a=>match nB env (xs.length:Int) (some h)with
      |none=>none
      |some b=>match nB env (xs.length:Int) (some hT)with
       |none=>none
       |some e=>bif Nat.beq g sz then some (.y (vO c) (.bn true zs),([.bn false xs,.int .i64 a,.int .i64 b,.int .i64 e],[]))else none)
    |_=>none)
  |_=>none
 |_=>none
def x8(bu:eX)(ids:cR)(env:av)(σ:ah)(d2 sz:Nat)(zs:List (List U)):Op->Option (cf×cb)
 |.slice c x g none none=>match bu.get c with
  |some ⟨_,_,_,.slice _ f _ _⟩=>(match env.cn x with
   |some (.own d)=>(match σ.get d with
    |some (.win e b xs)=>(match nB env 0 g with
     |none=>none
     |some a=>bif Nat.beq f sz&&Nat.beq b sz&&!ids.contains d2&&(σ.minus [d]).clean [d2].contains then some (.e [d,d2] [d2] (.own d2) ((d2,.win e b zs)::σ.minus [d]),([.bn false xs,.int .i64 a],[]))else none)
    |_=>none)
   |_=>none)
  |_=>none
 |_=>none
def Er(env:av):Op->Option (cf×cb)
 |.binOp op _ x y _=>match env.cn x with
  |some (.int k m)=>(match env.cn y with
   |some (.int a n)=>bif decide (k=a)then(match op with
    |.quo=>some (.y [] (.int k (k.wrap (m.tdiv n))),([.int .i64 n],[]))
    |.rem=>some (.y [] (.int k (m.tmod n)),([.int .i64 n],[]))
    |_=>none)else none
   |_=>none)
  |_=>none
 |_=>none
def ED(env:av):Op->Option (cf×cb)
 |.binOp op _ x y _=>match env.cn x with
  |some (.int k m)=>(match env.cn y with
   |some (.int _ n)=>(match op with
    |.shl=>some (.y [] (.int k (k.wrap (m*2 ^ min n.toNat k.bits))),([.int .i64 n],[]))
    |.shr=>some (.y [] (.int k (m.fdiv (2 ^ min n.toNat k.bits))),([.int .i64 n],[]))
    |_=>none)
   |_=>none)
  |_=>none
 |_=>none
def Dq(bu:eX)(env:av)(b:UInt8):Op->Option (cf×cb)
 |.index a x y=>match bu.get a with
  |some ⟨_,_,_,.str⟩=>(match env.cn x with
   |some (.str s)=>(match env.cn y with
    |some (.int _ n)=>some (.y [] (.int .u8 (b.toNat:Int)),([.str s,.int .i64 n],[]))
    |_=>none)
   |_=>none)
  |_=>none
 |_=>none
def D8(bu:eX)(env:av)(σ:ah)(E:Nat)(k:IntKind)(a:U)(b:Bool):Op->Option (cf×cb)
 |.lookup e x y ok=>match bu.get e with
  |some ⟨_,_,_,.map K c f⟩=>(match env.cn x with
   |some (.cc d)=>(match env.cn y with
    |some (.int bz n)=>(match σ.get d with
     |some (.map g h bG)=>bif Nat.beq c E&&decide (f=k)&&decide (bz=k)&&Nat.beq g K&&Nat.beq h c then some (.y [d] (bif ok then .bO [a,.bool b]else a),([.int .i64 n],[(0,.map 0 0 bG)]))else none
     |_=>none)
    |_=>none)
   |_=>none)
  |_=>none
 |_=>none
def Ef(bu:eX)(env:av)(σ:ah)(k:IntKind)(aiC:List (U×U))(T:Nat)(x y f:Operand):Option (cf×cb):=match bu.get T with
  |some ⟨_,_,_,.map K e c⟩=>(match env.cn x with
   |some (.cc d)=>(match env.cn y with
    |some (.int bz n)=>(match env.cn f with
     |some v=>(match σ.get d with
      |some (.map a b bG)=>bif decide (c=k)&&decide (bz=k)&&Nat.beq a K&&Nat.beq b e then some (.e [d] [] .undef (σ.set d (.map a b aiC)),([.int .i64 n,v],[(0,.map 0 0 bG)]))else none
      |_=>none)
     |_=>none)
    |_=>none)
   |_=>none)
  |_=>none
def IV(bu:eX)(env:av)(σ:ah)(k:IntKind)(aiC:List (U×U)):Op->Option (cf×cb)
 |.mapUpdate a x y z=>Ef bu env σ k aiC a x y z
 |.insert a x y z=>Ef bu env σ k aiC a x y z
 |_=>none
def D9(bu:eX)(env:av)(σ:ah)(k:IntKind)(n:Int):Op->Option (cf×cb)
 |.call c=>match c.callee with
  |.builtin b=>(match b with
   |.len=>(match c.args.toList with
    |[x]=>(match c.argTypes.toList with
     |[a]=>(match bu.get a with
      |some ⟨_,_,_,.map K g e⟩=>(match env.cn x with
       |some (.cc d)=>(match σ.get d with
        |some (.map f h bG)=>bif decide (e=k)&&Nat.beq f K&&Nat.beq h g then some (.y [d] (.int .i64 n),([],[(0,.map 0 0 bG)]))else none
        |_=>none)
       |_=>none)
      |_=>none)
     |_=>none)
    |_=>none)
   |_=>none)
  |_=>none
 |_=>none
def EG(env:av)(c:Bool)(T:Nat)(r:Bool):Op->Option (cf×cb)
 |.binOp op d x y _=>match env.cn x with
  |none=>none
  |some a=>match env.cn y with
   |none=>none
   |some b=>bif a.plain&&b.plain&&Nat.beq d T then(match op with
    |.eql=>bif c then none else some (.y [] (.bool r),([a,b],[]))
    |.neq=>bif c then some (.y [] (.bool r),([a,b],[]))else none
    |_=>none)else none
 |_=>none
def EE(bu:eX)(env:av)(b:Bool):Op->Option (cf×cb)
 |.binOp op c x y _=>match env.cn x with
  |none=>none
  |some a=>match env.cn y with
   |some .aF=>(match bu.get c with
    |some ⟨_,_,_,.slice _ _ _ _⟩=>(match op with
     |.eql=>bif b then none else some (.y [] (.bool false),([a],[]))
     |.neq=>bif b then some (.y [] (.bool true),([a],[]))else none
     |_=>none)
    |_=>none)
   |_=>none
 |_=>none
def Eo(env:av)(T aZ:Nat)(r:U):Op->Option (cf×cb)
 |.convert S b x=>match env.cn x with
  |none=>none
  |some a=>bif Nat.beq S T&&Nat.beq b aZ then some (.y [] r,([a],[]))else none
 |_=>none
def En(env:av)(op:BinOp)(T:Nat)(r:U):Op->Option (cf×cb)
 |.binOp c S x y _=>match env.cn x with
  |none=>none
  |some a=>match env.cn y with
   |none=>none
   |some b=>bif decide (c=op)&&Nat.beq S T then some (.y [] r,([a,b],[]))else none
 |_=>none
def vP{P:Program}(bu:eX)(ids:cR)(o:Oper)(env:av)(σ:ah):Hint P au->Option (cf×cb)
 |.z6=>match Ib bu env σ o.op with
  |some (g,i)=>some (.y g i,([],[]))
  |none=>match I3 env σ bu o.op with
   |some s=>some (s,([],[]))
   |none=>none
 |.al d=>match sk bu ids env d o.op with|some s=>some (s,([],[]))|none=>none
 |.to h _ b _=>match vP bu ids o env σ h with
  |some (.y g i,aeo)=>some (.y g b,(i::aeo.1,aeo.2))
  |_=>none
 |.ix c _ _ row _=>D2 bu env σ c row o.op
 |.lo d c _ _ off row _=>Ea bu env σ d c off row o.op
 |.so d c _ _ off _ zs _ k _=>EF bu env σ d c off k zs o.op
 |.rf _ _ _ r _ _=>Eu env σ r o.op
 |.ro p _ σs _ r _ _=>Ex env p σ σs r o.op
 |.le j _ _ r _ _=>D6 env σ j r o.op
 |.ji news _ q _ r l _ _=>DM ids env σ q news r l o.op
 |.dl j news _ _ r l _ _ _=>DO ids env σ j news r l o.op
 |.gs _ _ f _=>f ids o.op env σ
 |.ap d2 c bytes _ _ zs _=>Di bu ids env σ d2 c bytes zs o.op
 |.sl c _ _ _ zs _=>Ba bu env σ c zs o.op
 |.ws d2 c _ _ zs _=>x8 bu ids env σ d2 c zs o.op
 |.qr _ _=>Er env o.op
 |.sh _ _=>ED env o.op
 |.is _ _ b _=>Dq bu env b o.op
 |.lk E k _ _ a b _=>D8 bu env σ E k a b o.op
 |.nh k _ _ _ aiC _=>IV bu env σ k aiC o.op
 |.lm k _ n _=>D9 bu env σ k n o.op
 |.xT neg e _ _ r _=>EG env neg e r o.op
 |.kH neg _ _=>EE bu env neg o.op
 |.s3 c _ _ _ zs _=>xO bu env σ c zs o.op
 |.pu e m _ r _=>Eo env e m r o.op
 |.pb op e _ _ r _=>En env op e r o.op
theorem fO.mono{G:bI}{o:Oper}{ev:Operand->U}{σ:ah}{M news:cR}{Φ O:U->ah->Prop}(h:fO G o ev σ M news Φ)(S:∀a s,Φ a s->O a s):fO G o ev σ M news O:=by
 intro cx I β w H Q hop;have:=h cx I β w H Q hop;generalize (execOp H o).run G.P w=r at this;cases r with
 |halt x w'=>exact this
 |ok n w'=>
  cases n<;>simp only[jb]at this ⊢
  .grind
  .grind
  .exact hV this λ_ _ ⟨v,Z,a,s,X,aa,q,Y⟩=>⟨v,Z,a,s,X,aa,S _ _ q,Y⟩
section
variable {P:Program}{N:Nat}{ids:cR}{bu:eX}{o:Oper}{env:av}{σ:ah}
def abr(W:gM P bu){s:cf}(h:I3 env σ bu o.op=some s):eu ⟨P,N,ids,au⟩ o env σ s:=by
 cases c:o.op<;>rw[c]at h<;>simp only[I3]at h
 case store T x y=>
  split at h
  .cases h
  .rename_i i d;have l:=(gI.get W.tys d).ty;split at h
   .rename_i q t e;split at h
    .cases h
    .rename_i a g;split at h
     .rename_i m p k;split at h
      .cases h
      .rename_i n j
       replace h:=eN h;obtain⟨b,h⟩:=h
       simp only[b9]at b;split at h
       .cases h
       .rename_i r f;cases h
        exact⟨aG0 c (aFb e) l g k b.1.1 j b.1.2 b.2 f,rfl⟩
     .cases h
   .cases h
 all_goals cases h
def abt(W:gM P bu){d:Nat}{s:cf}(h:sk bu ids env d o.op=some s):eu ⟨P,N,ids,au⟩ o env σ s:=by
 cases e:o.op<;>rw[e]at h
 case alloc T=>
  simp only[sk]at h;split at h
  .rename_i v q zs t f;have p:=(gI.get W.tys f).P9 _ rfl;split at h
   .cases h
   .rename_i n g;cases c:ids.contains d with
    |true=>rw[c]at h;cases h
    |false=>rw[c]at h;cases h;exact⟨c,a4.alloc e p (qd g) c⟩
  .cases h
 case box T x=>
  simp only[sk]at h;split at h
  .cases h
  .rename_i a k;split at h
   .cases h
   .rename_i n g;obtain⟨b,⟨⟩⟩:=eN h;simp only[b9,gD]at b;exact⟨b.2,a4.box e k b.1.1 g b.1.2 b.2⟩
 case buildSlice T len parts=>
  simp only[sk]at h;split at h
  .rename_i f;have i:=(gI.get W.tys f).kd;simp only[iN]at i
   replace h:=eN h;obtain⟨b,h⟩:=h
   simp only[b9,gD]at b;split at h
   .cases h
   .rename_i u j;split at h
    .cases h
    .rename_i xs l;obtain⟨m,⟨⟩⟩:=eN h;exact⟨b.2,(aHh e i.2.2 (by simpa using b.1.1) (by simpa using b.1.2) (by rw[<-Gq,aFF j];exact BU _ l) m b.2).off⟩
  .cases h
 case makeMap T r=>
  cases r with
  |some r=>simp only[sk]at h;cases h
  |none=>
   simp only[sk]at h;split at h
   .rename_i f;cases c:ids.contains d with
    |true=>rw[c]at h;cases h
    |false=>rw[c]at h;cases h;exact⟨c,bB.makeMap e c⟩
   .cases h
 all_goals (simp only[sk]at h;cases h)
variable {G:bI}{i:Int}{k:IntKind}{x:Operand}
theorem aGa{T E sz:Nat}{y:Operand}{f:Bool}{ev:Operand->U}(xs:List (List U))(h:o.op=.indexAddr T x y)(s:ev x=.bn f xs)(t:ev y=.int k i)(l:lJ G.P T E sz)
  (r:∀e∈xs,e.length=sz) (hi:0<=i/\i<xs.length):Yields G o ev σ [] [] (.dI (el xs i)):=
 .pure λA I w J j D F z p=>by
  have c:=p x (by simp[h,Op.operands]);rw[s]at c
  have d:=p y (by simp[h,Op.operands]);rw[t]at d;have d:=g1 d
  simp only[aD,a1]at c;obtain⟨a,H,c,B,C,_,g⟩:=c;have m:i.toNat<xs.length:=by omega
  rcases g with g|⟨b,q,rfl,g⟩
  .grind
  .have n:=K2 (sz:=sz) _ q i.toNat r g m;have u:xs.getD i.toNat []=el xs i:=by
    simp[oy,m,el]
   rw[u]at n;refine⟨.pointer (some ⟨b,q+i.toNat*sz,none⟩),?_,by simp only[aD,a1];exact⟨b,_,rfl,n⟩⟩;have v:∀j,(underlying T).run G.P j=.ok (.slice E) j:=λj=>by simp[underlying,program,Sem.run,l.fz]
   simp[execOp,h,c,d,Instr.indexAt,asIntOf,v,hi,l.size,i5]
variable {aeo:cb}{xs:List (List U)}
def abu(W:gM P bu){sz:Nat}{row:List U}(u:rD sz xs i row){s:cf}(h:D2 bu env σ sz row o.op=some (s,aeo))(n:aeo=([.bn false xs,.int .i64 i],[])):eu ⟨P,N,ids,au⟩ o env σ s:=by
 obtain⟨p,l,j,q⟩:=u;cases b:o.op<;>rw[b]at h
 case indexAddr T x y=>
  simp only[D2]at h;split at h
  .rename_i C _ _ t;have d:=(gI.get W.tys t).kd;simp only[iN]at d;split at h
   .rename_i k E g;split at h
    .rename_i f v c;split at h
     .cases h
     .rename_i r e;obtain⟨a,⟨⟩⟩:=eN h;cases n;obtain rfl:=ek a;simp only[eu];rw[<-qd e,<-q];exact aGa _ b (aFb c) (aFb g) d.1 p ⟨l,j⟩
    .rename_i F c;split at h
     .rename_i w D B A z m;obtain⟨a,⟨⟩⟩:=eN h;rw[b9]at a;cases n;obtain rfl:=ek a.1;obtain rfl:=ek a.2;exact aGB _ id b (aFb c) (aFb g) (by rw[ts];exact m) d.1 ⟨l,j⟩
     .rename_i v m;split at h
      .cases h
      .rename_i r e;obtain⟨a,⟨⟩⟩:=eN h;cases n;obtain rfl:=ek a;simp only[eu];rw[<-qd e,<-q];exact Yields.win m (aGa _ b (Lk (aFb c)) (W9 (aFb g)) d.1 p ⟨l,j⟩)
     .cases h
    .cases h
   .cases h
  .cases h
 all_goals (simp only[D2]at h;cases h)
def abv(W:gM P bu){d sz off:Nat}{row:List U}(j:rD sz xs i row){s:cf}(h:Ea bu env σ d sz off row o.op=some (s,aeo))(u:aeo=([.bn false xs,.ptr d (i.toNat*sz+off)],[])):eu ⟨P,N,ids,au⟩ o env σ s:=by
 obtain⟨z,n,l,p⟩:=j;cases c:o.op<;>rw[c]at h
 case load T x=>
  simp only[Ea]at h;split at h
  .cases h
  .rename_i C f;have v:=(gI.get W.tys f).ty;split at h
   .rename_i E F g;split at h
    .rename_i w A B k D t
     replace h:=eN h;obtain⟨b,h⟩:=h
     simp only[b9]at b;obtain⟨⟨⟨y,m⟩,q⟩,r⟩:=b;split at h
     .cases h
     .rename_i a e;cases h;cases u;obtain rfl:=ek m;exact aHc (i:=i) _ id c (aFb g) (by rw[ts];exact t) rfl ⟨n,l⟩ v q r (by rw[id_eq,p];exact e)
    .cases h
   .cases h
 all_goals (simp only[Ea]at h;cases h)
variable {zs:List (List U)}
def abw(W:gM P bu){d sz off k:Nat}{ca:List U}(l:B4 sz xs i off ca zs)(w:(k:Int)<=i){s:cf}(h:EF bu env σ d sz off k zs o.op=some (s,aeo))(C:aeo=([.bn false xs,.ptr d (i.toNat*sz+off),.agg ca],[])):eu ⟨P,N,ids,au⟩ o env σ s:=by
 obtain⟨⟨J,p,m,_⟩,q⟩:=l;cases c:o.op<;>rw[c]at h
 case store T x y=>
  simp only[EF]at h;split at h
  .cases h
  .rename_i M f;have D:=(gI.get W.tys f).ty;split at h
   .rename_i Q R g;split at h
    .cases h
    .rename_i a j;split at h
     .cases h
     .rename_i E v;split at h
      .rename_i F K L H O B;obtain⟨b,⟨⟩⟩:=eN h;simp only[b9]at b;obtain⟨⟨⟨⟨⟨⟨I,n⟩,r⟩,t⟩,u⟩,z⟩,A⟩:=b;cases C;obtain rfl:=ek n;obtain rfl:=ek r;have e:=aGV (G:=⟨P,N,ids,au⟩) (i:=i) (ev:=λx=>o3 (env.ev x)) xs id (gy (el xs i) off ca) c (show o3 (env.ev x)=_ by rw[aFb g];rfl) (show o3 (env.ev y)=_ by rw[aFb j]) (by rw[ts];exact B) rfl ⟨p,m⟩ w D t v u z A rfl;rw[ts,<-q]at e;exact⟨e.off,rfl⟩
      .cases h
   .cases h
 all_goals (simp only[EF]at h;cases h)
variable {cM:List U}{f:FuncId}{r:U}
def abx{q:Nat}{σs:ah}(i:bb au P f σs cM r)(l:a3 P f){s:cf}(h:Ex env q σ σs r o.op=some (s,aeo))(t:aeo=(.fn f []::cM,σs)):eu ⟨P,N,ids,au⟩ o env σ s:=by
 cases b:o.op<;>rw[b]at h
 case call c=>
  simp only[Ex]at h;split at h
  .cases h
  .rename_i w u d;obtain⟨v,args,k,aY,z,rfl,j,e,rfl⟩:=yU d;split at h
   .cases h
   .rename_i n m;split at h
    .cases h
    .rename_i x g;split at h
     .cases h
     .rename_i y p;obtain⟨a,⟨⟩⟩:=eN h;rw[b9]at a;cases t;exact a4.call (G:=⟨P,N,ids,au⟩) (σs:=n) (ch:=σs) b j l.h i e (Gs g) (aFq m).1 (aFq p).1 a.1 a.2
 all_goals (simp only[Ex]at h;cases h)
def aby{b:List U}(j:bb au P f [] (cM++b) r)(m:a3 P f){s:cf}(h:Eu env σ r o.op=some (s,aeo))(q:aeo=(.fn f b::cM,[])):eu ⟨P,N,ids,au⟩ o env σ s:=by
 cases a:o.op<;>rw[a]at h
 case call c=>
  simp only[Eu]at h;split at h
  .cases h
  .rename_i v t w e;obtain⟨u,args,k,rfl,l,g⟩:=X0 e;split at h
   .cases h
   .rename_i p n;split at h
    .cases h
    .rename_i x i;obtain⟨d,⟨⟩⟩:=eN h;cases q;exact aG8 (G:=⟨P,N,ids,au⟩) (σs:=p) a l m.h (aFq n).1.mem (by rw[aFD g];exact Gs i) j d
 all_goals (simp only[Eu]at h;cases h)
def abz{p:cR}(i:bb au P f [] cM r)(l:a3 P f){s:cf}(h:D6 env σ p r o.op=some (s,aeo))(q:aeo=(.fn f []::cM,[])):eu ⟨P,N,ids,au⟩ o env σ s:=by
 cases a:o.op<;>rw[a]at h
 case call c=>
  simp only[D6]at h;split at h
  .cases h
  .rename_i v t d;obtain⟨u,args,k,aY,x,rfl,j,e,rfl⟩:=yU d;split at h
   .cases h
   .rename_i n m;split at h
    .cases h
    .rename_i w g;obtain⟨b,⟨⟩⟩:=eN h;cases q;exact aGE (G:=⟨P,N,ids,au⟩) (σs:=n) 9 a j l.h i e g (aFq m).1 b
 all_goals (simp only[D6]at h;cases h)
theorem abA{news:cR}{ch σ2:ah}(n:cz au P f ch cM (λa j=>a=r/\j=σ2))(t:a3 P f){s:cf}(h:DM ids env σ ch news r σ2 o.op=some (s,aeo))(z:aeo=(.fn f []::cM,ch)):eu ⟨P,N,ids,au⟩ o env σ s:=by
 cases e:o.op<;>rw[e]at h
 case call c=>
  simp only[DM]at h;split at h
  .cases h
  .rename_i D B g;obtain⟨C,args,k,aY,I,rfl,p,i,rfl⟩:=yU g;split at h
   .cases h
   .rename_i F l;split at h
    .cases h
    .rename_i E w;obtain⟨d,⟨⟩⟩:=eN h;simp only[b9,gD]at d;obtain⟨⟨⟨b,q⟩,u⟩,v⟩:=d;cases z;refine⟨?_,by rw[gE]at b ⊢;exact λx y=>((b9 _ _).mp (b x y)).1⟩;have A:=aGZ (G:=⟨P,N,ids,au⟩) (σ:=σ) news e p t.h n i (yh l) (aFq w).1 b q (λJ H m=>by obtain⟨rfl,rfl⟩:=m;exact⟨u,v⟩)
     grind
 all_goals (simp only[DM]at h;cases h)
def aaV{z news:cR}{σ2:ah}(m:cz au P f [] cM (λa j=>a=r/\j=σ2))(q:a3 P f)(y:pl σ2){s:cf}(h:DO ids env σ z news r σ2 o.op=some (s,aeo))(C:aeo=(.fn f []::cM,[])):eu ⟨P,N,ids,au⟩ o env σ s:=by
 cases e:o.op<;>rw[e]at h
 case call c=>
  simp only[DO]at h;split at h
  .cases h
  .rename_i F D g;obtain⟨E,args,k,aY,I,rfl,n,i,rfl⟩:=yU g;split at h
   .cases h
   .rename_i w v;split at h
    .cases h
    .rename_i H l;obtain⟨d,⟨⟩⟩:=eN h;simp only[b9,gD]at d;obtain⟨⟨⟨⟨b,p⟩,t⟩,u⟩,x⟩:=d;cases C;exact⟨aGs (G:=⟨P,N,ids,au⟩) (σs:=w) 9 news e n q.h m i l (aFq v).1 b p t u x y,by rw[gE]at b ⊢;exact λA B=>((b9 _ _).mp (b A B)).1⟩
 all_goals (simp only[DO]at h;cases h)
theorem aaW(W:gM P bu){d2 sz bytes:Nat}{ys:List (List U)}(J:B0 sz bytes xs ys zs){s:cf}(h:Di bu ids env σ d2 sz bytes zs o.op=some (s,aeo))(q:aeo=([.bn false xs,.bn false ys],[])):eu ⟨P,N,ids,au⟩ o env σ s:=by
 obtain⟨n,y,j,i,l,m⟩:=J;cases e:o.op<;>rw[e]at h
 case call c=>
  obtain⟨ag,args,V⟩:=c;simp only[Di]at h;split at h
  .split at h
   .split at h
    .rename_i M B R;have:args=#[M,B]:=oj.1 (by simpa using R);subst this;split at h
     .rename_i w z T;have:V=#[w,z]:=oj.1 (by simpa using T);subst this;split at h
      .rename_i X Z ab Y E;have g:=(gI.get W.tys E).kd;simp only[iN]at g;generalize x:(Nat.beq w z&&_&&_&&_)=O at h;cases O with
       |false=>cases h
       |true=>
        simp only[cm]at h;simp only[b9,gD]at x;obtain⟨⟨⟨L,K⟩,Q⟩,b⟩:=x;obtain rfl:=ek L;obtain rfl:=ek K;obtain rfl:=ek Q;split at h
        .grind
        .rename_i aa H;split at h
         .rename_i f C I;have p:gp σ (env.ev B) (.bn f C):=by rw[aFb H];exact nW I
          split at h
          .rename_i aj d;split at h
           .rename_i F S A k ae v;obtain⟨a,⟨⟩⟩:=eN h;simp only[b9]at a;obtain⟨⟨t,r⟩,u⟩:=a;obtain rfl:=ek t;obtain rfl:=ek r;cases q;refine⟨?_,by simpa using b⟩;rw[<-n];exact D.append (G:=⟨P,N,ids,au⟩) e (aFb d) v p g.2.1 rfl j i l m b u
           .rename_i F S A v;obtain⟨a,⟨⟩⟩:=eN h;simp only[b9]at a;obtain⟨⟨t,r⟩,u⟩:=a;obtain rfl:=ek t;obtain rfl:=ek r;cases q;refine⟨?_,by simpa using b⟩;rw[<-n];exact D.ZL (G:=⟨P,N,ids,au⟩) e (aFb d) v p g.2.1 rfl j i l m b u
           .grind
          .rename_i d;obtain⟨a,⟨⟩⟩:=eN h;cases q;refine⟨?_,by simpa using b⟩;rw[<-n];exact aGq (G:=⟨P,N,ids,au⟩) e (.inl ⟨aFb d,rfl⟩) p g.2.1 y j i l m b a
          .rename_i A d;obtain⟨a,⟨⟩⟩:=eN h;rw[b9]at a;cases q;refine⟨?_,by simpa using b⟩;rw[<-n];exact aGq (G:=⟨P,N,ids,au⟩) e (.inr ⟨aFb d,(Iff.of_eq Nat.blt_eq).1 a.2⟩) p g.2.1 y j i l m b a.1
          .cases h
         .cases h
      .cases h
     .cases h
    .cases h
   .cases h
  .cases h
 all_goals (simp only[Di]at h;cases h)
theorem aaX(W:gM P bu){d2 sz:Nat}{a:Int}(l:nr sz xs a xs.length zs){s:cf}(h:x8 bu ids env σ d2 sz zs o.op=some (s,aeo))(u:aeo=([.bn false xs,.int .i64 a],[])):eu ⟨P,N,ids,au⟩ o env σ s:=by
 obtain⟨z,d,w⟩:=l;cases c:o.op<;>rw[c]at h
 case slice T x lo hi hT=>
  cases hi with
  |some m=>cases hT<;>simp only[x8]at h<;>cases h
  |none=>
  cases hT with
  |some m=>simp only[x8]at h;cases h
  |none=>
   simp only[x8]at h;split at h
   .rename_i B _ _ i;have f:=(gI.get W.tys i).kd;simp only[iN]at f;split at h
    .rename_i E k;split at h
     .rename_i v D C t;split at h
      .cases h
      .rename_i A g;obtain⟨b,⟨⟩⟩:=eN h;simp only[b9,gD]at b;obtain⟨⟨⟨q,p⟩,e⟩,r⟩:=b;obtain rfl:=ek q;obtain rfl:=ek p;cases u;obtain⟨j,n⟩:=GN g;refine⟨?_,by simpa using e⟩;have y:=aGW (G:=⟨P,N,ids,au⟩) (d2:=d2) c (aFb k) t f.1 j (by rw[n];exact⟨d.1,d.2.1⟩) e r
       simp_all
     .cases h
    .cases h
   .cases h
 all_goals (simp only[x8]at h;cases h)
variable {b:Int}
def aaY(W:gM P bu){sz:Nat}{a:Int}(y:nr sz xs a b zs){s:cf}(h:Ba bu env σ sz zs o.op=some (s,aeo))(E:aeo=([.bn false xs,.int .i64 a,.int .i64 b],[])):eu ⟨P,N,ids,au⟩ o env σ s:=by
 obtain⟨B,C,z⟩:=y;cases g:o.op<;>rw[g]at h
 case slice T x lo hi hT=>
  cases hT with
  |some m=>simp only[Ba]at h;cases h
  |none=>
   simp only[Ba]at h;split at h
   .rename_i I _ _ t;have p:=(gI.get W.tys t).kd;simp only[iN]at p;split at h
    .cases h
    .rename_i e i;split at h
     .rename_i f J c;split at h
      .cases h
      .rename_i H r;split at h
       .cases h
       .rename_i F D;obtain⟨q,⟨⟩⟩:=eN h;cases E;obtain rfl:=ek q;obtain⟨u,k⟩:=GN r;obtain⟨w,j⟩:=GO D
        have n:=bB.slice (G:=⟨P,N,ids,au⟩) (σ:=σ) g (by rw[aFb i];exact nW c) p.1 B u w (by rw[k,j];exact C) (vO e) (λv A=>by
         rw[aFb i];have:gR [] v e=some (.bn f xs):=by
          cases e
          case own d=>simp only[gR]at c ⊢;rw[A _ (by simp[vO])];exact c
          case bn b l=>cases b<;>exact c
          case cc d=>simp only[gR]at c;split at c<;>first|cases c|(split at c<;>cases c)
          case agg l=>simp only[gR]at c;split at c<;>cases c
          case bO l=>simp only[gR]at c;split at c<;>cases c
          case fn f l=>simp only[gR]at c;split at c<;>cases c
          all_goals exact c
         exact nW this)
        rw[k,j,z]at n;exact n
     .cases h
   .cases h
 all_goals (simp only[Ba]at h;cases h)
def aaZ{n:Int}(e:n≠0){s:cf}(h:Er env o.op=some (s,aeo))(f:aeo=([.int .i64 n],[])):eu ⟨P,N,ids,au⟩ o env σ s:=by
 cases a:o.op<;>rw[a]at h
 case binOp op T x y i=>
  simp only[Er]at h;split at h
  .rename_i k j c;split at h
   .rename_i g l d;cases b:decide (k=g)with
    |false=>rw[b]at h;cases h
    |true=>
     rw[b]at h;simp only[cm]at h;have:=fF b;subst this;split at h
     .cases h;cases f;exact aGC a (aFb c) (aFb d) e
     .cases h;cases f;exact bB.rem a (aFb c) (aFb d) e
     .cases h
   .cases h
  .cases h
 all_goals (simp only[Er]at h;cases h)
def aa0{n:Int}(d:0<=n){s:cf}(h:ED env o.op=some (s,aeo))(e:aeo=([.int .i64 n],[])):eu ⟨P,N,ids,au⟩ o env σ s:=by
 cases a:o.op<;>rw[a]at h
 case binOp op T x y f=>
  simp only[ED]at h;split at h
  .rename_i k i b;split at h
   .rename_i g j c;split at h
    .cases h;cases e;exact bB.shift (op:=.shl) (.inl rfl) a (aFb b) (aFb c) d
    .cases h;cases e;exact bB.shift (op:=.shr) (.inr rfl) a (aFb b) (aFb c) d
    .cases h
   .cases h
  .cases h
 all_goals (simp only[ED]at h;cases h)
def ZO(W:gM P bu){d:ByteArray}{n:Int}{b:UInt8}(c:0<=n/\d[n.toNat]?=some b){s:cf}(h:Dq bu env b o.op=some (s,aeo))(j:aeo=([.str d,.int .i64 n],[])):eu ⟨P,N,ids,au⟩ o env σ s:=by
 cases a:o.op<;>rw[a]at h
 case index T x y=>
  simp only[Dq]at h;split at h
  .rename_i f;have e:=(gI.get W.tys f).kd;simp only[iN]at e;split at h
   .rename_i l g;split at h
    .rename_i k m i;cases h;cases j;exact aGA a (aFb g) (aFb i) e c.1 c.2
    .cases h
   .cases h
  .cases h
 all_goals (simp only[Dq]at h;cases h)
variable {a:U}{bG:List (U×U)}
def aa1(W:gM P bu){E:Nat}{n:Int}{b:Bool}(j:B2 P E k bG n a b){s:cf}(h:D8 bu env σ E k a b o.op=some (s,aeo))(v:aeo=([.int .i64 n],[(0,.map 0 0 bG)])):eu ⟨P,N,ids,au⟩ o env σ s:=by
 obtain⟨J,z,t,A,rfl,rfl,rfl,w⟩:=j;cases d:o.op<;>rw[d]at h
 case lookup T x y ok=>
  simp only[D8]at h;split at h
  .rename_i B F C f;have e:=(gI.get W.tys f).kd;simp only[iN]at e;split at h
   .rename_i H g;split at h
    .rename_i bz I i;split at h
     .rename_i D G aiC u;obtain⟨c,⟨⟩⟩:=eN h;simp only[b9]at c;obtain⟨⟨⟨⟨m,l⟩,p⟩,q⟩,r⟩:=c;obtain rfl:=ek m;have:=fF l;subst this;have:=fF p;subst this;obtain rfl:=ek q;obtain rfl:=ek r;cases v;exact bB.lookup z t A d (aFb g) (aFb i) u e w
     .cases h
    .cases h
   .cases h
  .cases h
 all_goals (simp only[D8]at h;cases h)
variable {aiC:List (U×U)}
def NR(W:gM P bu){n:Int}{v:U}(i:ym k bG n v aiC){T:Nat}{y a:Operand}(e:o.op=.mapUpdate T x y a\/o.op=.insert T x y a){s:cf}(h:Ef bu env σ k aiC T x y a=some (s,aeo))(u:aeo=([.int .i64 n,v],[(0,.map 0 0 bG)])):eu ⟨P,N,ids,au⟩ o env σ s:=by
 obtain⟨K,z,r,A,rfl,rfl,l,rfl⟩:=i;simp only[Ef]at h;split at h
 .rename_i B G E d;have c:=(gI.get W.tys d).kd;simp only[iN]at c;split at h
  .rename_i I f;split at h
   .rename_i bz J g;split at h
    .rename_i C w;split at h
     .rename_i F H aiC t;obtain⟨b,⟨⟩⟩:=eN h;simp only[b9]at b;obtain⟨⟨⟨j,m⟩,p⟩,q⟩:=b;have:=fF j;subst this;have:=fF m;subst this;obtain rfl:=ek p;obtain rfl:=ek q;cases u;exact⟨D.mapUpdate z r A e (aFb f) (aFb g) (aFb w) l t c,rfl⟩
     .cases h
    .cases h
   .cases h
  .cases h
 .cases h
def aa2(W:gM P bu){n:Int}{v:U}(b:ym k bG n v aiC){s:cf}(h:IV bu env σ k aiC o.op=some (s,aeo))(c:aeo=([.int .i64 n,v],[(0,.map 0 0 bG)])):eu ⟨P,N,ids,au⟩ o env σ s:=by
 cases a:o.op<;>rw[a]at h
 case mapUpdate T x y z=>exact NR W b (.inl a) h c
 case insert T x y z=>exact NR W b (.inr a) h c
 all_goals (simp only[IV]at h;cases h)
theorem aa3(W:gM P bu){n:Int}(i:B3 k bG n){s:cf}(h:D9 bu env σ k n o.op=some (s,aeo))(u:aeo=([],[(0,.map 0 0 bG)])):eu ⟨P,N,ids,au⟩ o env σ s:=by
 obtain⟨F,v,r,rfl,rfl⟩:=i;cases b:o.op<;>rw[b]at h
 case call c=>
  obtain⟨D,args,w⟩:=c;simp only[D9]at h;split at h
  .split at h
   .split at h
    .rename_i x m;have:args=#[x]:=oj.1 (by simpa using m);subst this;split at h
     .rename_i e q;have:w=#[e]:=oj.1 (by simpa using q);subst this;split at h
      .rename_i y B z f;have d:=(gI.get W.tys f).kd;simp only[iN]at d;split at h
       .rename_i E g;split at h
        .rename_i A C aiC t;obtain⟨a,⟨⟩⟩:=eN h;simp only[b9]at a;obtain⟨⟨j,l⟩,p⟩:=a;have:=fF j;subst this;obtain rfl:=ek l;obtain rfl:=ek p;cases u;exact aGG v r b rfl (aFb g) t d.fz
        .grind
       .cases h
      .cases h
     .cases h
    .cases h
   .cases h
  .cases h
 all_goals (simp only[D9]at h;cases h)
def aa4{d:Bool}{T:Nat}{b:U}{r:Bool}(i:∀(x y:Operand) w,(do eqGuard (bif d then .neq else .eql) T x y (valOf a) (valOf b);binOp (bif d then .neq else .eql) T (valOf a) (valOf b):Sem Value).run P w=.ok (.bool r) w)
  {s:cf}  (h:EG env d T r o.op=some (s,aeo)) (j:aeo=([a,b],[])):eu ⟨P,N,ids,au⟩ o env σ s:=by
 cases e:o.op<;>rw[e]at h
 case binOp op k x y n=>
  simp only[EG]at h;split at h
  .cases h
  .rename_i m f;split at h
   .cases h
   .rename_i l g
    replace h:=eN h
    obtain⟨c,h⟩:=h;simp only[b9]at c;obtain rfl:=ek c.2;split at h
    .cases d with
     |true=>cases h
     |false=>
      cases h;cases j;exact aGD e (aFb f) (aFb g) c.1.1 c.1.2 (i x y)
    .cases d with
     |false=>cases h
     |true=>
      cases h;cases j;exact aGF e (aFb f) (aFb g) c.1.1 c.1.2 (i x y)
    .cases h
 all_goals (simp only[EG]at h;cases h)
def aa5{T aZ:Nat}(f:∀(o:Oper) (N:Nat) (ids:cR) (ev:Operand->U) (σ:ah) (x:Operand),o.op=.convert T aZ x->ev x=a->Yields ⟨P,N,ids,au⟩ o ev σ [] [] r){s:cf}(h:Eo env T aZ r o.op=some (s,aeo))(i:aeo=([a],[])):eu ⟨P,N,ids,au⟩ o env σ s:=by
 cases c:o.op<;>rw[c]at h
 case convert S k x=>
  simp only[Eo]at h;split at h
  .cases h
  .rename_i j d;obtain⟨b,⟨⟩⟩:=eN h;simp only[b9]at b;have g:=ek b.1;have e:=ek b.2;subst g;subst e
   cases i;exact f o N ids env.ev σ x c (aFb d)
 all_goals (simp only[Eo]at h;cases h)
def aa6{op:BinOp}{T:Nat}{b:U}(i:∀(o:Oper) (N:Nat) (ids:cR) (ev:Operand->U) (σ:ah) (x y:Operand) (aZ:Nat),o.op=.binOp op T x y aZ->ev x=a->ev y=b->Yields ⟨P,N,ids,au⟩ o ev σ [] [] r){s:cf}(h:En env op T r o.op=some (s,aeo))(k:aeo=([a,b],[])):eu ⟨P,N,ids,au⟩ o env σ s:=by
 cases d:o.op<;>rw[d]at h
 case binOp n S x y aZ=>
  simp only[En]at h;split at h
  .cases h
  .rename_i m e;split at h
   .cases h
   .rename_i l g;obtain⟨c,⟨⟩⟩:=eN h;simp only[b9]at c;have j:=fF c.1;have f:=ek c.2;subst j;subst f
    cases k;exact i o N ids env.ev σ x y aZ d (aFb e) (aFb g)
 all_goals (simp only[En]at h;cases h)
theorem aFZ{ev:Operand->U}{T E sz:Nat}{hi hT:Operand}{f:Bool}{i:Option Operand}{c:Int}(h:o.op=.slice T x i (some hi) (some hT))(am:gp σ (ev x) (.bn f xs))(t:lJ G.P T E sz)(M:∀e∈xs,e.length=sz)(V:rG ev i)
  (X:rG ev (some hi)) (Z:rG ev (some hT)) (B:nA ev xs.length (some hi)=c) (em:nA ev xs.length (some hT)=c)
  (fK:0<=jc ev i/\jc ev i<=c/\c<=xs.length) (R:cR) (L:∀l:ah,(∀d∈R,l.get d=σ.get d)->gp l (ev x) (.bn f xs)) :
  Yields G o ev σ [] R (.bn true ((xs.take c.toNat).drop (jc ev i).toNat)):=
 .pure λl ar ak ax w m W H q=>by
  have p:=(L l W).rep H _ (q x (by simp[h,Op.operands]));simp only[aD,a1]at p;obtain⟨a,C,p,an,ao,_,r⟩:=p;generalize j:jc ev i=g at fK ⊢;have ab:(Instr.sliceBounds true xs.length C (i.map m) (some (m hi)) (some (m hT))).run G.P w=.ok (g.toNat,c.toNat,c.toNat) w:=by
   have ag:0<=c/\c<=(C:Int):=by omega
   have S:0<=g/\g<=(c.toNat:Int):=by omega
   obtain⟨Y,aw,Q,z⟩:=tD X (q hi (by simp[h,Op.operands]));obtain⟨aa,A,O,v⟩:=tD Z (q hT (by simp[h,Op.operands]));simp only[nA,Q]at B;simp only[nA,O]at em;subst B em;have D:=run_sliceBound (P:=G.P) (k:=aa) (code:=.slice3Acap) (w:=w) ag;have u:=run_sliceBound (P:=G.P) (k:=Y) (n:=A) (y:=A.toNat) (code:=.slice3B) (w:=w) (by omega);cases i with
   |none=>
    simp only[jc]at j;subst j;simp[Instr.sliceBounds,z,v,D,u]
   |some y=>
    obtain⟨k,n,I,K⟩:=tD V (q y (by simp[h,Op.operands]));simp only[jc,I]at j;subst j;have:=run_sliceBound (P:=G.P) (k:=k) (code:=.slice3C) (w:=w) S;simp[Instr.sliceBounds,z,v,D,u,K,this]
  have N:(execOp m o).run G.P w=.ok (.value (.slice (if c.toNat=g.toNat then a else a.map (·.add (g.toNat*sz))) (c.toNat-g.toNat) (c.toNat-g.toNat))) w:=by
   have ae:∀w,(underlying T).run G.P w=.ok (.slice E) w:=λw=>ja t.fz w;simp only[execOp,h,Instr.sliceAt,Instr.slice,p,fD,ae,gQ,iS,ab,t.size,jq]
  refine⟨_,N,?_⟩;simp only[aD,a1];have s:((xs.take c.toNat).drop g.toNat).length=c.toNat-g.toNat:=by rw[l2,hg];omega
  refine⟨_,c.toNat-g.toNat,by rw[s],by rw[s];omega,by omega,λ_=>s.symm,?_⟩;by_cases F:(xs.take c.toNat).drop g.toNat=[]
  .exact .inl F
  .right;have aq:g.toNat<c.toNat:=by grind
   rcases r with rfl|⟨b,aj,rfl,r⟩
   .simp at F
   .refine⟨b,aj+g.toNat*sz,?_,Fi _ _ _ (λe J=>M e (ue J)) (Fy _ _ _ r)⟩;rw[bw (by omega)];simp[i5]
theorem aa7(W:gM P bu){sz:Nat}{a:Int}(z:nr sz xs a b zs){s:cf}(h:xO bu env σ sz zs o.op=some (s,aeo))(n:aeo=([.bn false xs,.int .i64 a,.int .i64 b,.int .i64 b],[])):eu ⟨P,N,ids,au⟩ o env σ s:=by
 obtain⟨F,H,B⟩:=z;cases i:o.op<;>rw[i]at h
 case slice T x lo g hT=>
  cases hT with
  |none=>cases g<;>(simp only[xO]at h;cases h)
  |some hT=>cases g with
   |none=>simp only[xO]at h;cases h
   |some g=>
    simp only[xO]at h;split at h
    .rename_i Q _ _ t;have p:=(gI.get W.tys t).kd;simp only[iN]at p;split at h
     .cases h
     .rename_i e j;split at h
      .rename_i f J c;split at h
       .cases h
       .rename_i O r;split at h
        .grind
        .rename_i L I;split at h
         .grind
         .rename_i M C;obtain⟨q,⟨⟩⟩:=eN h;simp only[kJ,iV,U.bn.injEq,U.int.injEq,and_true,true_and]at n;obtain⟨rfl,rfl,rfl,K⟩:=n;obtain rfl:=ek q;obtain⟨u,k⟩:=GN r;obtain⟨w,y⟩:=GO I;obtain⟨A,D⟩:=GO C
          have m:=aFZ (G:=⟨P,N,ids,au⟩) (σ:=σ) i (by rw[aFb j];exact nW c) p.1 F u w A y (D.trans K) (by rw[k];exact H) (vO e) (λv E=>by
           rw[aFb j];have:gR [] v e=some (.bn f J):=by
            cases e
            case own d=>simp only[gR]at c ⊢;rw[E _ (by simp[vO])];exact c
            case bn b l=>cases b<;>exact c
            case cc d=>simp only[gR]at c;split at c<;>first|cases c|(split at c<;>cases c)
            case agg l=>simp only[gR]at c;split at c<;>cases c
            case bO l=>simp only[gR]at c;split at c<;>cases c
            case fn f l=>simp only[gR]at c;split at c<;>cases c
            all_goals exact c
           exact nW this)
          rw[k,B]at m;exact m
      .cases h
    .cases h
 all_goals (simp only[xO]at h;cases h)
def Kd{P:Program}(op:BinOp)(t:TypeId)(x y:Operand)(a b:Option Addr)(n n' c d:Nat)(w:World):(eqGuard op t x y (.slice a n c) (.slice b n' d)).run P w=.ok () w:=by
 unfold eqGuard;cases op<;>rfl
def Vk{P:Program}(w:World)(t e:TypeId)(a:Option Addr)(n c n' b:Nat)(h:P.underlying t=some (.slice e)):(binOp .neq t (.slice a n c) (.slice none n' b)).run P w=.ok (.bool (!a.isNone)) w:=by
 simp only[binOp];simp[Op.equal,Op.maxDepth,Lib.run_equalIn_slice_nil w 9999 t e a n c n' b h]
theorem aa8(W:gM P bu){r:Bool}(E:Dn a){s:cf}(h:EE bu env r o.op=some (s,aeo))(p:aeo=([a],[])):eu ⟨P,N,ids,au⟩ o env σ s:=by
 cases j:o.op<;>rw[j]at h
 case binOp op T x y J=>
  simp only[EE]at h;split at h
  .cases h
  .rename_i l k;split at h
   .rename_i D;split at h
    .rename_i m n F q H I G C;have z:P.underlying T=some (.slice q):=(gI.get W.tys C).kd.1.fz;have A:∀(l:U),env.cn x=some l->l=a->∀(c:a8) (d:Nat->Value) (b:Operand->Value),(∀B∈o.op.operands,aD c d (env.ev B) (b B))->∃i g e,b x=.slice (some i) g e/\b y=.slice none 0 0:=by
      intro l k v c d b f;have w:=f x (by simp[j,Op.operands]);rw[aFb k,v]at w;have u:=f y (by simp[j,Op.operands]);rw[aFb D]at u;simp only[aD,a1]at u;obtain⟨i,g,e,v⟩:=E c d _ w
      grind
     split at h
     .cases r with
      |true=>cases h
      |false=>
       cases h;simp only[kJ,iV,and_true]at p;refine .pure λ_ _ c d t b _ _ f=>?_;obtain⟨i,g,e,m,n⟩:=A _ k p c d b f;refine⟨.bool false,?_,by simp[aD,a1]⟩;simp only[execOp,j,m,n,fD,Kd,gQ,Lib.run_eql_slice_nil t T q (some i) g e 0 0 z];rfl
     .cases r with
      |false=>cases h
      |true=>
       cases h;simp only[kJ,iV,and_true]at p;refine .pure λ_ _ c d t b _ _ f=>?_;obtain⟨i,g,e,m,n⟩:=A _ k p c d b f;refine⟨.bool true,?_,by simp[aD,a1]⟩;simp only[execOp,j,m,n,fD,Kd,gQ,Vk t T q (some i) g e 0 0 z];rfl
     .cases h
    .cases h
   .cases h
 all_goals (simp only[EE]at h;cases h)
theorem CA(W:gM P bu):∀{hint:Hint P au} {s:cf} {aeo:cb},vP bu ids o env σ hint=some (s,aeo)->aeo=hint.exp->eu ⟨P,N,ids,au⟩ o env σ s
 |.z6,s,aeo,h,he=>by
  simp only[vP]at h;split at h
  .rename_i p y t;cases h;exact abq W t
  .split at h
   .rename_i w l;cases h;exact abr W l
   .cases h
 |.al d,s,aeo,h,he=>by
  simp only[vP]at h;split at h
  .rename_i w l;cases h;exact abt W l
  .cases h
 |.to C a b e,s,aeo,h,he=>by
  simp only[vP]at h;split at h
  .rename_i p y F l;cases h
   simp only[Hint.exp,kJ,iV]at he;obtain⟨⟨K,q⟩,u⟩:=he;have:=CA W l (Prod.ext q u)
   grind
  .cases h
 |.ix j xs i row c,s,aeo,h,he=>abu W c h he
 |.lo d j xs i off row c,s,aeo,h,he=>abv W c h he
 |.so d j xs i off H zs c k hk,s,aeo,h,he=>abw W c hk h he
 |.rf f I cM r c g,s,aeo,h,he=>aby c g h he
 |.ro G f σs cM r c g,s,aeo,h,he=>abx c g h he
 |.le z f cM r c g,s,aeo,h,he=>abz c g h he
 |.ji news f J cM r A c g,s,aeo,h,he=>abA c g h he
 |.dl z news f cM r A c g x,s,aeo,h,he=>aaV c g x h he
 |.gs L ex f c,s,aeo,h,he=>c o N ids env σ s aeo h he
 |.ap d2 j bytes xs M zs c,s,aeo,h,he=>aaW W c h he
 |.sl j xs a b zs c,s,aeo,h,he=>aaY W c h he
 |.ws d2 j xs a zs c,s,aeo,h,he=>aaX W c h he
 |.qr n c,s,aeo,h,he=>aaZ c h he
 |.sh n c,s,aeo,h,he=>aa0 c h he
 |.is D n b c,s,aeo,h,he=>ZO W c h he
 |.lk E k bG n a b c,s,aeo,h,he=>aa1 W c h he
 |.nh k bG n v aiC c,s,aeo,h,he=>aa2 W c h he
 |.lm k bG n c,s,aeo,h,he=>aa3 W c h he
 |.xT neg m a b r c,s,aeo,h,he=>aa4 c h he
 |.kH neg a c,s,aeo,h,he=>aa8 W c h he
 |.s3 j xs a b zs c,s,aeo,h,he=>aa7 W c h he
 |.pu m B a r c,s,aeo,h,he=>aa5 c h he
 |.pb op m a b r c,s,aeo,h,he=>aa6 c h he
end
end
section
variable {au:Bool}
inductive lI where
 |bL (cq:cR)
 |ad (t d T sz:Nat)
 |ac (d0 d T sz i:Nat)
 |b8 (a b:Nat)
 |sc (d0:Nat) (kp:cR)
 |rn (a b:Nat)
 |wi (d:Nat)
def sG(ids:cR)(env:av)(σ:ah):lI->Option (av×ah)
 |.bL h=>some (env,σ.freeze h)
 |.ad t c d e=>match env.find t with
  |some .aF=>bif (σ.get c).isNone&&!ids.contains c&&env.clean (Nat.beq c)&&σ.clean (Nat.beq c)then some ((t,.own c)::env,(c,.slice d e [] 0 false)::σ)else none
  |_=>none
 |.ac d0 c d e i=>match σ.get d0 with
  |some (.cells g f)=>(match f.drop i with
   |.aF::post=>bif !Nat.beq d0 c&&!ids.contains c&&env.clean (Nat.beq c)&&σ.clean (Nat.beq c)then some (env,(c,.slice d e [] 0 false)::σ.set d0 (.cells g (f.take i++.own c::post)))else none
   |_=>none)
  |_=>none
 |.b8 a b=>bif v7 (swp a b) (swp a b) ids env σ then some (env.cC (swp a b),σ.cC (swp a b))else none
 |.rn a b=>bif v7 (λc=>bif Nat.beq c a then b else c) (λc=>bif Nat.beq c b then a else c) ids env σ then some (env.cC (λc=>bif Nat.beq c a then b else c),σ.cC (λc=>bif Nat.beq c a then b else c))else none
 |.sc d0 j=>match σ.get d0 with
  |some (.cells g f)=>(match rA j σ f with|none=>none|some k=>some (env,σ.set d0 (.cells g k)))
  |_=>none
 |.wi c=>match σ.get c with
  |some (.slice d e xs _ _)=>some (env,ah.set c (.win d e xs) (σ.freeze [c]))
  |_=>none
def uo(ids:cR):List lI->av->ah->Option (av×ah)
 |[],env,σ=>some (env,σ)
 |m::r,env,σ=>match sG ids env σ m with
  |none=>none
  |some (e,s)=>uo ids r e s
theorem aa9{G:bI}{env dc:av}{σ σ2:ah}{m:lI}(h:sG G.ids env σ m=some (dc,σ2)):cZ G env σ dc σ2:=by
 cases m with
 |bL J=>cases h;exact cZ.freeze G env σ J
 |ad t b g l=>
  simp only[sG]at h;split at h
  .rename_i F;generalize a:((σ.get b).isNone&&_&&_&&_)=f at h;cases f with
   |false=>cases h
   |true=>
    cases h;simp only[b9,gD,Option.isNone_iff_eq_none]at a;exact aHr t b g l (aFp F) a.1.1.1 a.1.1.2 a.1.2 a.2
  .cases h
 |ac d0 b g l i=>
  simp only[sG]at h;split at h
  .rename_i p r k;split at h
   .rename_i post v;generalize a:(!Nat.beq d0 b&&_&&_&&_)=f at h;cases f with
    |false=>cases h
    |true=>
     cases h;simp only[b9,gD]at a;exact aGO d0 b g l p (r.take i) post (by rw[k,<-v,o6]) a.1.1.1 a.1.1.2 a.1.2 a.2
   .cases h
  .cases h
 |b8 j d=>
  simp only[sG]at h;cases a:v7 (swp j d) (swp j d) G.ids env σ with
  |false=>rw[a]at h;cases h
  |true=>rw[a]at h;cases h;exact cZ.cC _ _ a
 |rn j d=>
  simp only[sG]at h;generalize a:v7 _ _ _ _ _=f at h;cases f with
  |false=>cases h
  |true=>cases h;exact cZ.cC _ _ a
 |wi b=>
  simp only[sG]at h;split at h
  .rename_i g l xs N bL c;cases h;exact(cZ.freeze G env σ [b]).trans (cZ.win (by rw[aFk,c];simp only[iS,gL,fE,b4.qM]) rfl)
  .cases h
 |sc d0 O=>
  simp only[sG]at h;split at h
  .rename_i p r k;split at h
   .cases h
   .rename_i K y;cases h;refine λM I L j P e B=>⟨I,L,?_,B⟩;have fB:=yh y;refine{e with bY:=λb o c=>?_,cQ:=λb q c D A d=>?_}
    .rw[aFf]at c;split at c
     .rename_i H;subst H;rw[k]at c;simp only[iS,ee]at c;subst c;have:=e.bY b _ k;simp only[bl]at this ⊢;rcases this with s|⟨d,E,s,w,z,C⟩
      .grind
      .exact .inr ⟨d,E,s,w,fB.rep e _ z,C⟩
     .exact e.bY b o c
    .have u:∀x,((σ.set d0 (.cells p K)).get x).isSome->(σ.get x).isSome:=λx n=>by
      rw[aFf]at n;split at n
      .grind
      .exact n
     exact e.cQ b q (u b c) (u q D) A d
  .cases h
def y3{G:bI}:∀{a:List lI} {env dc:av} {σ σ2:ah},uo G.ids a env σ=some (dc,σ2)->cZ G env σ dc σ2
 |[],env,_,σ,_,h=>by cases h;exact cZ.refl G env σ
 |m::r,env,dc,σ,σ2,h=>by
  simp only[uo]at h;split at h
  .cases h
  .rename_i c s b;exact(aa9 b).trans (y3 h)
def zm(sl:cR)(c:cR)(σ:ah)(env:av):cR->Option av
 |[]=>some []
 |k::r=>match env.find k with
  |none=>none
  |some a=>match(bif sl.any (Nat.beq k)then gR c σ a else some a)with
   |none=>none
   |some b=>match zm sl c σ env r with
    |none=>none
    |some l=>some ((k,b)::l)
def Gf{sl:cR}{e:cR}{σ:ah}{env:av}:∀{ks:cR} {dc:av},zm sl e σ env ks=some dc->vt σ env dc
 |[],dc,h=>by cases h;trivial
 |k::r,dc,h=>by
  simp only[zm]at h;split at h
  .cases h
  .rename_i f d;split at h
   .cases h
   .rename_i g a;split at h
    .cases h
    .rename_i i c;cases h;refine⟨?_,Gf c⟩;rw[aFp d];cases b:sl.any (Nat.beq k)with
     |false=>rw[b]at a;cases a;exact .refl _
     |true=>rw[b]at a;exact nW a
def vQ(ids:cR)(c:List lI)(sl:cR)(ks a:cR)(env:av)(σ:ah):Option (av×ah):=match uo ids c env σ with
 |none=>none
 |some (e,s)=>match zm sl a s e ks with
  |none=>none
  |some d=>match s.at a with
   |none=>none
   |some b=>some (d,b)
def Mg{G:bI}{b:List lI}{sl:cR}{ks c:cR}{env dc:av}{σ σ2:ah}(h:vQ G.ids b sl ks c env σ=some (dc,σ2)):cZ G env σ dc σ2:=by
 simp only[vQ]at h;split at h
 .cases h
 .rename_i g s e;split at h
  .cases h
  .rename_i i d;split at h
   .cases h
   .rename_i f a;cases h;exact(y3 e).trans (aGf (Gf d) (aFq a).1)
abbrev ob(e:av):cR:=e.map (·.1)
def cZ.go{G:bI}{env dc:av}{σ σ2:ah}(H:List lI)(sl:cR)(h:vQ G.ids H sl (ob dc) σ2.ids env σ=some (dc,σ2)):cZ G env σ dc σ2:=Mg h
def zn(ops:jB)(o:Oper)(env:av):dw:=match o.guard with
 |none=>some true
 |some (c,want)=>match ops[c]? with
  |none=>none
  |some b=>match b.dst with
   |none=>none
   |some a=>match env.find a with
    |some (.bool true)=>some want
    |some (.bool false)=>some (!want)
    |some .undef=>some false
    |_=>none
theorem CJ{ops:jB}{o:Oper}{env:av}(h:zn ops o env=some true):g7 ops o env:=by
 unfold zn at h;split at h
 .exact g7.n ‹_›
 .rename_i g i c;split at h
  .cases h
  .rename_i f b;split at h
   .cases h
   .rename_i e d;split at h
    .rename_i a;cases h;exact g7.g c b d (aFp a) rfl
    .rename_i a;simp only[ee,gD]at h;subst h;exact g7.g c b d (aFp a) rfl
    all_goals grind
def Nw{ops:jB}{o:Oper}{env:av}(h:zn ops o env=some false):iW ops o env:=by
 unfold zn at h;split at h
 .cases h
 .rename_i g i c;split at h
  .cases h
  .rename_i f b;split at h
   .cases h
   .rename_i e d;split at h
    .rename_i a;cases h;exact iW.g c b d (aFp a) rfl
    .rename_i a;simp only[ee,qz]at h;subst h;exact iW.g c b d (aFp a) rfl
    .rename_i a;exact iW.undef c b d (aFp a)
    .cases h
def tW{P:Program}(bu:eX)(ids:cR)(ops:jB)(s:jA):List (Nat×Hint P au)->List (Nat×cR)->av->ah->Option (av×ah×List cb)
 |[],_,env,σ=>some (env,σ,[])
 |(i,h)::r,log,env,σ=>match ops[i]? with
  |none=>none
  |some o=>match zn ops o env with
   |none=>none
   |some false=>(match tW bu ids ops s r (bif lP s i then(i,[])::log else log) (env.put o.dst .undef) σ with
    |none=>none
    |some (e,a,b)=>some (e,a,([],[])::b))
   |some true=>match vP bu ids o env σ h with
    |none=>none
    |some (.y g f,d)=>bif !lP s i||HS σ g then(match tW bu ids ops s r (bif lP s i then(i,g)::log else log) (env.put o.dst f) σ with
     |none=>none
     |some (e,a,b)=>some (e,a,d::b))else none
    |some (.v c j f,d)=>bif lP s i&&env.clean [c].contains&&σ.clean [c].contains&&HZ j then(match tW bu ids ops s r ((i,[c])::log) (env.put o.dst f) ((c,j)::σ)with
     |none=>none
     |some (e,a,b)=>some (e,a,d::b))else none
    |some (.e M news f k,d)=>bif qP s i&&(!s.dY||o8 s i M log)&&env.clean news.contains&&news.all (λc=>(σ.get c).isNone)then(match tW bu ids ops s r log (env.put o.dst f) k with
     |none=>none
     |some (e,a,b)=>some (e,a,d::b))else none
theorem N6{s:jA}{i:Nat}(h:lP s i=false):qP s i=true:=by
 unfold lP at h;unfold qP
 grind
def ta{P:Program}{bu:eX}{N:Nat}{ids:cR}{ops:jB}{s:jA}{K:av->ah->Prop}(W:gM P bu):∀{v:List (Nat×Hint P au)} {q:List (Nat×cR)} {env n:av} {σ l:ah} {m:List cb},
  tW bu ids ops s v q env σ=some (n,l,m)->m=v.map (λp=>p.2.exp)->K n l->hQ ⟨P,N,ids,au⟩ ops s q (v.map (·.1)) env σ K
 |[],q,env,n,σ,l,m,h,_,k=>by cases h;exact C.nil k
 |(i,J)::r,q,env,n,σ,l,m,h,he,k=>by
  simp only[tW]at h;split at h
  .cases h
  .rename_i o f;split at h
   .cases h
   .rename_i e;split at h
    .cases h
    .rename_i x t u b;cases h;simp only[dr,iV]at he ⊢;cases c:lP s i with
     |true=>rw[c]at b;exact C.skip f (Nw e) c (ta W b he.2 k)
     |false=>rw[c]at b;exact C.Sh f (Nw e) (N6 c) (ta W b he.2 k)
   .rename_i e;split at h
    .cases h
    .rename_i E z y g;generalize a:(!lP s i||_)=j at h;cases j with
     |false=>cases h
     |true=>
      simp only[cm]at h;split at h
      .cases h
      .rename_i x t u b;cases h;simp only[dr,iV]at he ⊢;have d:=CA (N:=N) W g he.1;cases c:lP s i with
       |true=>
        rw[c]at b a;exact C.y f (CJ e) c (by simpa using a) d (ta W b he.2 k)
       |false=>
        rw[c]at b;exact C.jF f (CJ e) (N6 c) d (ta W b he.2 k)
    .rename_i w I z y g;generalize a:(lP s i&&_&&_&&_)=j at h;cases j with
     |false=>cases h
     |true=>
      simp only[cm]at h;simp only[b9]at a;split at h
      .cases h
      .rename_i x t u b;cases h;simp only[dr,iV]at he ⊢;have d:=CA (N:=N) W g he.1;exact C.v f (CJ e) a.1.1.1 d.1 a.1.1.2 a.1.2 a.2 d.2 (ta W b he.2 k)
    .rename_i D L z G y g;generalize a:(qP s i&&_&&_&&_)=j at h;cases j with
     |false=>cases h
     |true=>
      simp only[cm]at h;simp only[b9]at a;split at h
      .cases h
      .rename_i x t u b;cases h;simp only[dr,iV]at he ⊢;have d:=CA (N:=N) W g he.1;refine C.e f (CJ e) a.1.1.1 d.1 a.1.1.2 a.1.2 ?_ (λF H B=>?_)
       .rw[gE];intro w A;rw[b9];exact⟨gE.1 d.2 w A,gE.1 a.2 w A⟩
       .obtain⟨rfl,rfl⟩:=B;exact ta W b he.2 k
def Po(l:cR)(n:Nat):cR:=bif l.any (Nat.beq n)then l else n::l
def adi(ops:List Oper):mh:=
 (ops.foldl (λ(a:mh) o=>(o.after.toList.foldl (λc b=>bif Region.binds .any b then(a.getD (a.length-1-b.on) []).foldl Po (Po c b.on)else c) [])::a) []).reverse
def Hint.wR{P:Program}:Hint P au->Bool
 |.ji ..|.dl ..|.ap ..=>true
 |.gs e _ _ _=>e
 |_=>false
def RH:Op->Bool
 |.assign _|.store ..|.mapUpdate ..|.insert ..|.entryStore ..|.makeSlice ..=>true
 |_=>false
def hintOf{P:Program}(a:List (Nat×Hint P au))(i:Nat):Hint P au:=match a with
 |[]=>.z6
 |(k,h)::r=>bif Nat.beq k i then h else hintOf r i
def HM{P:Program}(a:List (Nat×Hint P au)):Nat->List Oper->cR
 |_,[]=>[]
 |i,o::r=>bif RH o.op||(hintOf a i).wR then i::HM a (i+1) r else HM a (i+1) r
def HN(T:mh)(es left:cR):cR->iG->iG
 |[],f=>f
 |i::r,f=>bif (T.getD i []).any (λa=>left.any (Nat.beq a))then HN T es left r f
   else bif es.any (Nat.beq i)then HN T es left r (match f with|none=>some i|some x=>some x)else some i
def N7(T:mh)(es:cR):Nat->cR->cR
 |0,_=>[]
 |n+1,left=>match HN T es left left none with
  |none=>[]
  |some i=>i::N7 T es n (left.filter λa=>!Nat.beq i a)
def h5{P:Program}(ops:jB)(d:Bool)(c:List (Nat×Hint P au)):jA×cR:=
 bif d then
  let a:=adi ops.toList
  let b:=HM c 0 ops.toList
  (⟨true,a,b⟩,N7 a b ops.size (List.range ops.size))
 else(⟨false,[],[]⟩,List.range ops.size)
def Ei(N:Nat)(ops:jB)(a:Bool)(s:jA)(l:cR):Bool:=bif a then s.dY&&Dh N ops s l else !s.dY&&s.T.isEmpty&&s.es.isEmpty&&v6 N ops
def qH{P:Program}(bu:eX)(N:Nat)(ids:cR)(ops:jB)(g:Bool)(s:jA)(l:cR)(e:List lI)(b:List (Nat×Hint P au))(ks a:cR)(env:av)(σ:ah):Option (av×ah×List cb):=
 bif Ei N ops g s l then
  (match uo ids e env σ with
  |none=>none
  |some (d,ahN)=>match tW bu ids ops s (l.map λi=>(i,hintOf b i)) [] d ahN with
   |none=>none
   |some (h,s1,f)=>match zm [] a s1 h ks with
    |none=>none
    |some j=>match s1.at a with
     |none=>none
     |some c=>some (j,c,f))
 else none
section code
variable {P:Program}{N:Nat}{ids:cR}{bu:eX}{env:av}{σ:ah}{Q:Exit->av->ah->Prop}{x y c:Code}
variable {ops:jB}
theorem A.R(W:gM P bu){id:Nat}{dY:Bool}(aw:List lI)(H:List (Nat×Hint P au))(dc:av)(σ2:ah)
  (h:qH bu N ids ops dY (h5 ops dY H).1 (h5 ops dY H).2 aw H (ob dc) σ2.ids env σ=some (dc,σ2,(h5 ops dY H).2.map λi=>(hintOf H i).exp)) (k:Q .normal dc σ2):ar ⟨P,N,ids,au⟩ (.region id ops dY) Q env σ:=by
 generalize fB:h5 ops dY H=sl at h;obtain⟨s,l⟩:=sl;simp only[qH]at h;cases O:Ei N ops dY s l with
 |false=>rw[O]at h;cases h
 |true=>
  rw[O]at h;simp only[cm]at h;split at h
  .cases h
  .rename_i ao ahN az;split at h
   .cases h
   .rename_i Y aa aB ae;split at h
    .cases h
    .rename_i ax ay;split at h
     .cases h
     .rename_i am ak;simp only[ee,kJ]at h;obtain⟨rfl,rfl,ag⟩:=h;refine aFs (y3 az) ?_
      have S:∀K:av->ah->Prop,K Y aa->hQ ⟨P,N,ids,au⟩ ops s [] l ao ahN K:=λK an=>by
       have:=ta (N:=N) (K:=K) W ae (by rw[ag,nv];rfl) an;rw[nv,show((λx:Nat×Hint P au=>x.1)∘λi=>(i,hintOf H i))=λi=>i from rfl,List.map_id']at this;exact this
      refine aFY ?_;have X:∃dc σ2,cZ ⟨P,N,ids,au⟩ Y aa dc σ2/\Q .normal dc σ2:=⟨ax,am,aGf (Gf ay) (aFq ak).1,k⟩;cases dY with
      |false=>
       simp only[Ei,bH,b9,gD,List.isEmpty_iff]at O;have aq:s=⟨false,[],[]⟩:=by
        obtain⟨a,b,c⟩:=s
        grind
       have ab:l=List.range ops.size:=by
        have:=fq Prod.snd fB;simpa [h5]using this.symm
       subst aq ab;exact A.region O.2 (S _ X)
      |true=>
       simp only[Ei,cm,b9]at O;obtain⟨aA,T,es⟩:=s;obtain⟨Z,aj⟩:=O;simp only at Z;subst Z;exact A.any T es l W.mix aj (S _ X)
def aFx(W:gM P bu){id:Nat}{b:Bool}(c:List lI)(a:List (Nat×Hint P au))(dc:av)(σ2:ah)
  (h:qH bu N ids ops b (h5 ops b a).1 (h5 ops b a).2 c a (ob dc) σ2.ids env σ=some (dc,σ2,(h5 ops b a).2.map λi=>(hintOf a i).exp)) (k:ar ⟨P,N,ids,au⟩ y Q dc σ2):ar ⟨P,N,ids,au⟩ (.seq (.region id ops b) y) Q env σ:=
 aq (A.R W c a dc σ2 h k)
variable {G:bI}{o:Operand}
def aFu{p:Bool}(c:env.cn o=some (.bool p))(b:p=true)(k:ar G x Q env σ):ar G (.cond o x y) Q env σ:=A.cond (aFb c) (λ_=>k) (λa=>by rw[b]at a;cases a)
def aFl{p:Bool}(c:env.cn o=some (.bool p))(b:p=false)(k:ar G y Q env σ):ar G (.cond o x y) Q env σ:=A.cond (aFb c) (λa=>by rw[b]at a;cases a) (λ_=>k)
def A.J{G:bI}{α aen:Type}{J:α->Option aen}{r:aen}(Y:α->av)(X:α->ah)
  (h:ar G x (l1 (λS H=>∃g,J g=some r/\cZ G S H (Y g) (X g)) Q) env σ) (k:∀g,J g=some r->ar G y Q (Y g) (X g)):ar G (.seq x y) Q env σ:=by
 refine aq (h.mono ?_);intro e S H O;cases e with
 |normal=>
  obtain⟨g,aa,Z⟩:=O;exact aFs Z (k g aa)
 |_=>exact O
variable {S aen:Type}{ahN:S}{r:aen}
theorem aF0{α:Type}{l:List α}{B:Int->α->(S->Option aen)->S->Option aen}{K:S->Option aen}{oM:Nat}(w:bC (l.drop oM) oM B K ahN=some r)(f:Nat->S->av)(e:Nat->S->ah)
  (n:cZ G env σ (f oM ahN) (e oM ahN))
  (q:∀(j:Nat) (x:α) (a4:S->Option aen) (s:S),oM<=j->l[j]?=some x->B j x a4 s=some r->ar G c (l1 (λm h=>∃b,a4 b=some r/\cZ G m h (f (j+1) b) (e (j+1) b)) Q) (f j s) (e j s))
  (t:∀(j:Nat) (s:S),oM<=j->l.length<=j->K s=some r->ar G c (l1 (λ_ _=>False) Q) (f j s) (e j s)):ar G (.loop c) Q env σ:=by
 refine A.loop (α:=Nat×S) (λa=>f a.1 a.2) (λa=>e a.1 a.2) (λa=>oM<=a.1/\bC (l.drop a.1) a.1 B K a.2=some r) (λa=>l.length-a.1) (oM,ahN) ⟨eb _,w⟩ n ?_;rintro⟨j,s⟩ ⟨g,d⟩;simp only at g d ⊢;by_cases i:j<l.length
 .have o:l[j]?=some l[j]:=jW i;rw[r3 i]at d;refine(q j l[j] (bC (l.drop (j+1)) (j+1) B K) s g o d).mono ?_;intro u m h k;cases u with
  |normal=>
   obtain⟨b,v,p⟩:=k;exact⟨(j+1,b),⟨by omega,v⟩,by show l.length-(j+1)<l.length-j;omega,p⟩
  |_=>exact k
 .rw[zT (by omega)]at d;refine(t j s g (by omega) d).mono ?_
  grind
def aFE{m:Nat}{i0 hi:Int}{B:Int->(S->Option aen)->S->Option aen}{K:Int->S->Option aen}(w:iD m i0 B K ahN=some r)(n:m=(hi-i0).toNat)(g:Int->S->av)(f:Int->S->ah)
  (p:cZ G env σ (g i0 ahN) (f i0 ahN))
  (t:∀(i:Int) (a4:S->Option aen) (s:S),i0<=i->i<hi->B i a4 s=some r->ar G c (l1 (λl h=>∃d,a4 d=some r/\cZ G l h (g (i+1) d) (f (i+1) d)) Q) (g i s) (f i s))
  (u:∀(i:Int) (s:S),i0<=i->hi<=i->K i s=some r->ar G c (l1 (λ_ _=>False) Q) (g i s) (f i s)):ar G (.loop c) Q env σ:=by
 refine A.loop (α:=Nat×Int×S) (λa=>g a.2.1 a.2.2) (λa=>f a.2.1 a.2.2) (λa=>i0<=a.2.1/\a.1=(hi-a.2.1).toNat/\iD a.1 a.2.1 B K a.2.2=some r) (λa=>a.1) (m,i0,ahN) ⟨pM _,n,w⟩ p ?_;rintro⟨b,i,s⟩ ⟨k,n,j⟩;simp only at k n j ⊢;cases b with
 |zero=>
  refine(u i s k (by omega) j).mono ?_;intro o l h e;cases o with
  |normal=>exact e.elim
  |_=>exact e
 |succ b=>
  refine(t i (iD b (i+1) B K) s k (by omega) j).mono ?_;intro o l h e;cases o with
  |normal=>
   obtain⟨d,v,q⟩:=e;exact⟨(b,i+1,d),⟨by show i0<=i+1;omega,by show b=(hi-(i+1)).toNat;omega,v⟩,by show b<b+1;omega,q⟩
  |_=>exact e
def aFn{F:(S->Option aen)->S->Option aen}{k:Nat}(q:iter F k ahN=some r)(f:S->av)(e:S->ah)(l:cZ G env σ (f ahN) (e ahN))
  (n:∀(a4:S->Option aen) (s:S),F a4 s=some r->ar G c (l1 (λj g=>∃d,a4 d=some r/\cZ G j g (f d) (e d)) Q) (f s) (e s)):ar G (.loop c) Q env σ:=by
 refine A.loop (α:=Nat×S) (λa=>f a.2) (λa=>e a.2) (λa=>iter F a.1 a.2=some r) (λa=>a.1) (k,ahN) q l ?_;rintro⟨b,s⟩ h;cases b with
 |zero=>cases h
 |succ b=>
  refine(n (iter F b) s h).mono ?_;intro o j g i;cases o with
  |normal=>
   obtain⟨d,p,m⟩:=i;exact⟨(b,d),p,by show b<b+1;omega,m⟩
  |_=>exact i
theorem KW{I:a8}{b:Nat}:∀{e:List U} {o:Nat} {x:U},iw I b e o->x∈e->∃c,a1 I x c
 |[],_,_,_,h=>by simp at h
 |y::r,o,x,a,h=>by
  simp only[iw]at a;rcases c5.1 h with rfl|h
  .grind
  .exact KW a.2 h
theorem KJ{I:a8}{b:Nat}:∀{xs:List (List U)} {o:Nat} {e:List U},fT I b xs o->e∈xs->∃o,iw I b e o
 |[],_,_,_,h=>by simp at h
 |y::r,o,x,a,h=>by
  simp only[fT]at a;rcases c5.1 h with rfl|h
  .grind
  .exact KJ a.2 h
def Lm{I:a8}:∀{e:List U} {vs:hD} {x:U},bP I e vs->x∈e->∃a,a1 I x a
 |[],_,_,_,h=>by simp at h
 |y::r,vs,x,b,h=>by
  simp only[bP]at b;obtain⟨a,f,_,d,c⟩:=b;rcases c5.1 h with rfl|h
  .exact⟨a,d⟩
  .exact Lm c h
def aFW{I:a8}:∀(n:Nat) (f:Bool) (xs:List (List U)) (v:Value),a1 I (.bn f xs) v->Fk n xs
 |0,f,xs,v,h=>by
  simp only[a1]at h;obtain⟨e,c,_,b,a,_⟩:=h;exact gP b a
 |n+1,f,xs,v,h=>by
  simp only[a1]at h;obtain⟨e,c,_,b,a,_,i⟩:=h;refine⟨gP b a,λt d m q g=>?_⟩;rcases i with rfl|⟨s,o,_,k⟩
  .simp at d
  .obtain⟨r,l⟩:=KJ k d;obtain⟨p,j⟩:=KW l g;exact aFW n m q p j
variable {I:a8}{xs:List (List U)}
def aF5{β:Nat->Value}{f:Bool}{v:Value}(h:aD I β (.bn f xs) v):j3 xs:=λa=>aFW a f xs v (by simpa only[aD]using h)
def aHn{β:Nat->Value}{f:Bool}:∀{cs:List U} {vs:hD} {i:Nat},bD I β cs vs->cs[i]?=some (.bn f xs)->j3 xs:=λh b=>by
 obtain⟨c,_,a⟩:=Cx h b;exact aF5 a
theorem N8{cx:dz}{β:Nat->Value}{σ:ah}{w:World}(e:bE G cx I β σ w){d:Nat}{T sz k:Nat}{bL:Bool}(h:σ.get d=some (.slice T sz xs k bL)){v:Value}(b:aD I β (.own d) v):j3 xs:=by
 obtain⟨r,c,_,f,g⟩:=K3 e h b;intro a;cases a with
 |zero=>exact gP f g
 |succ a=>
  refine⟨gP f g,λn i o q j=>?_⟩;simp only[aD]at b;have:=e.bY d _ h;simp only[bl]at this;rcases this with u|⟨_,rfl,_⟩|⟨t,aY,s,_,_,_,_,_,l,_⟩
  .grind
  .simp at i
  .obtain⟨p,m⟩:=Lm l (List.mem_flatten.2 ⟨n,i,j⟩);exact aFW a o q p m
def aFd{f:Bool}(t:Nat)(h:env.find t=some (.bn f xs))(k:j3 xs->ar G c Q env σ):ar G c Q env σ:=by
 refine aFw λj d m e=>?_;obtain⟨I,n,l,b,g,i⟩:=e;have a:=b t;rw[aFp h]at a;exact(k (aF5 a)).use j d m ⟨I,n,l,b,g,i⟩
def aF2{T sz k:Nat}{bL:Bool}{d:Nat}(t:Nat)(j:env.find t=some (.own d))(h:σ.get d=some (.slice T sz xs k bL))(k:j3 xs->ar G c Q env σ):ar G c Q env σ:=by
 refine aFw λm f n g=>?_;obtain⟨I,o,e,b,i,l⟩:=g;have a:=b t;rw[aFp j]at a;exact(k (N8 e h a)).use m f n ⟨I,o,e,b,i,l⟩
def aFm{T d:Nat}{f:Bool}{cs:List U}(t i:Nat)(n:env.find t=some (.ptr d 0))(h:σ.get d=some (.cells T cs))(hi:cs[i]?=some (.bn f xs))(k:j3 xs->ar G c Q env σ):ar G c Q env σ:=by
 refine aFw λq j r l=>?_;obtain⟨I,s,e,b,m,o⟩:=l;have a:=b t;rw[aFp n]at a;simp only[aD]at a;obtain⟨v,g,_⟩:=a;obtain⟨u,_,_,p,_⟩:=bE.box e h g;exact(k (aHn p hi)).use q j r ⟨I,s,e,b,m,o⟩
def aF1{T d d2 p sz bz:Nat}{bL:Bool}{cs:List U}(t i:Nat)(m:env.find t=some (.ptr d 0))(h:σ.get d=some (.cells T cs))(hi:cs[i]?=some (.own d2))(s:σ.get d2=some (.slice p sz xs bz bL))(k:j3 xs->ar G c Q env σ):ar G c Q env σ:=by
 refine aFw λr g u j=>?_;obtain⟨I,v,b,e,l,n⟩:=j;have a:=e t;rw[aFp m]at a;simp only[aD]at a;obtain⟨x,f,_⟩:=a;obtain⟨w,_,_,o,_⟩:=bE.box b h f;obtain⟨y,_,q⟩:=Cx o hi;exact(k (N8 b s q)).use r g u ⟨I,v,b,e,l,n⟩
def aFe(dc:av)(σ2:ah)(h:ar G y Q dc σ2->ar G (.seq x y) Q env σ)(k:ar G y Q dc σ2):ar G (.seq x y) Q env σ:=h k
end code
def eU(b:Bool):b=true\/b=false:=by cases b<;>simp
def ko{p q:Bool}(h:p=true):U.bool q=.bool (p&&q):=by rw[h];rfl
def kK{p q:Bool}(h:p=false):U.bool false=.bool (p&&q):=by rw[h];rfl
def hj{p q:Bool}(h:p=true):U.bool true=.bool (p||q):=by rw[h];rfl
def eW{p q:Bool}(h:p=false):U.bool q=.bool (p||q):=by rw[h];rfl
def IE{p x y:Bool}(h:p=true):U.bool x=.bool (bif p then x else y):=by rw[h];rfl
def PD{p x y:Bool}(h:p=false):U.bool y=.bool (bif p then x else y):=by rw[h];rfl
def ax{p q:Bool}(h:p=q):U.bool p=.bool q:=by rw[h]
section
variable {P:Program}
def Y{a b:U}(e:a=b):Hint P au:=.to .z6 a b e
def be{sz:Nat}{xs:List (List U)}{i:Int}{row:List U}(a:rD sz xs i row):Hint P au:=.ix sz xs i row a
def fK(d off:Nat){sz:Nat}{xs:List (List U)}{i:Int}{row:List U}(a:rD sz xs i row):Hint P au:=.lo d sz xs i off row a
def mY(d:Nat){sz:Nat}{xs:List (List U)}{i:Int}{off:Nat}{ca:List U}{zs:List (List U)}(a:B4 sz xs i off ca zs){k:Nat}(b:(k:Int)<=i):Hint P au:=.so d sz xs i off ca zs a k b
def aB{f:FuncId}{σs:ah}{a:List U}{r:U}(b:bb au P f σs a r)(c:a3 P f):Hint P au:=.ro 0 f σs a r b c
def Pp(d:Nat){f:FuncId}{σs:ah}{a:List U}{r:U}(b:bb au P f σs a r)(c:a3 P f):Hint P au:=.ro d f σs a r b c
def jH{f:FuncId}{b a:List U}{r:U}(c:bb au P f [] (a++b) r)(d:a3 P f):Hint P au:=.rf f b a r c d
def bt(d:cR){f:FuncId}{a:List U}{r:U}(b:bb au P f [] a r)(c:a3 P f):Hint P au:=.le d f a r b c
def jj{E:Nat}{k:IntKind}{c:List (U×U)}{n:Int}{a:U}{b:Bool}(d:B2 P E k c n a b):Hint P au:=.lk E k c n a b d
def sv{k:IntKind}{b:List (U×U)}{n:Int}{v:U}{a:List (U×U)}(c:ym k b n v a):Hint P au:=.nh k b n v a c
def KX{I:a8}{b:Nat}:∀(xs:bX) (o:Nat),fT I b (bc (c9 .u8) xs) o->∀(j:Nat) x,xs[j]?=some x->I b ((o+j:Nat))=some (.int .u8 x)
 |[],_,_,j,x,h=>by simp at h
 |y::xs,o,h,0,x,a=>by
  simp at a;subst a
  simp only[bc,dr,fT]at h;obtain⟨⟨⟨f,e,c⟩,_⟩,_⟩:=h;have d:f=.int .u8 y:=by simpa [a1]using c
  subst d;simpa using e
 |y::xs,o,h,j+1,x,a=>by
  simp only[bc,dr,fT]at h;have:=KX xs (o+1) (by simpa [bc,c9]using h.2) j x (by simpa using a);rw[show o+(j+1)=o+1+j by omega];exact this
def X1(a:bX):∀s:ByteArray,a.foldl (λr n=>r.push (UInt8.ofNat n.toNat)) s=⟨s.data++(a.map λn=>UInt8.ofNat n.toNat).toArray⟩:=by
 induction a with
 |nil=>intro s;simp
 |cons n a b=>intro s;rw[List.foldl_cons,b];apply ByteArray.ext;simp[ByteArray.push]
theorem aHi{P:Program}{T e aZ:Nat}(A:P.underlying T=some (.slice e))(v:P.underlying e=some (.int .u8))(w:P.underlying aZ=some .string){f:Bool}{l:bX}{o:Oper}{N:Nat}{ids:cR}{ev:Operand->U}{σ:ah}{x:Operand}(h:o.op=.convert T aZ x)(u:ev x=.bn f (bc (c9 .u8) l)):
  Yields ⟨P,N,ids,au⟩ o ev σ [] [] (.str (mE l)):=
 .pure λC E I H d aen D t B=>by
  have j:=B x (by simp[h,Op.operands]);rw[u]at j
  simp only[aD,a1]at j;obtain⟨a,c,j,_,_,_,k⟩:=j;refine⟨.string (mE l),?_,by simp[aD,a1]⟩;have s:(bc (c9 .u8) l).length=l.length:=by simp[bc]
  rw[s]at j;have z:(execOp aen o)=(do let q <-Go.convert T aZ (.slice a l.length c);pure (.value q)):=by simp only[execOp,h,j]
  rw[z,fD,run_convert_bytes_string d T aZ e a l.length c A v w];refine(?_:(Conv.bytesToString (.slice a l.length c)).run P d=.ok (.string (mE l)) d->_) ?_
  .simp_all
  have F:∀(g b:Nat),a=some ⟨g,b,none⟩->fT I g (bc (c9 .u8) l) b->(Conv.bytesToString (.slice a l.length c)).run P d=.ok (.string (mE l)) d:=by
   rintro g b rfl k
   have n:=run_loadCells_list (P:=P) d ⟨g,b,none⟩ (l.map (Value.int .u8)) (λm q i=>by
    rw[l7]at i;cases p:l[m]? with
    |none=>rw[p]at i;cases i
    |some y=>
     rw[p]at i;cases i
     have e:(⟨g,b,none⟩:Addr).add m=⟨g,b+m,none⟩:=by unfold Addr.add;split<;>simp_all
     rw[e];exact t.good _ _ _ (KX l b k m y p))
   rw[iO]at n;rw[run_bytesToString d ⟨g,b,none⟩ l.length c l n,X1];congr 2;apply ByteArray.ext;show(#[]:Array UInt8)++_=_;simp[mE]
  rcases k with k|⟨g,b,rfl,k⟩
  .have:l=[]:=by cases l with|nil=>rfl|cons y G=>simp[bc]at k
   subst this;cases a with
   |none=>rfl
   |some a=>
    have n:=run_loadCells_list (P:=P) d a [] (λm q i=>by simp at i);have:=run_bytesToString d a 0 c [] n;have r:mE []=ByteArray.empty:=rfl;rw[r];simpa using this
  .grind
def Py{k:IntKind}{a:List (U×U)}{n:Int}(b:B3 k a n):Hint P au:=.lm k a n b
def kA(h news:cR){f:FuncId}{b:List U}{r:U}{σ2:ah}(d:cz au P f [] b (λa c=>a=r/\c=σ2))(e:a3 P f)(g:pl σ2):Hint P au:=.dl h news f b r σ2 d e g
def b3(news:cR){f:FuncId}{ch:ah}{b:List U}{r:U}{σ2:ah}(d:cz au P f ch b (λa c=>a=r/\c=σ2))(e:a3 P f):Hint P au:=.ji news f ch b r σ2 d e
def dS(d2:Nat){sz bytes:Nat}{xs ys zs:List (List U)}(a:B0 sz bytes xs ys zs):Hint P au:=.ap d2 sz bytes xs ys zs a
def pW(d2:Nat){sz:Nat}{xs:List (List U)}{a:Int}{zs:List (List U)}(b:nr sz xs a (xs.length:Int) zs):Hint P au:=.ws d2 sz xs a zs b
def fB{sz:Nat}{xs:List (List U)}{a b:Int}{zs:List (List U)}(c:nr sz xs a b zs):Hint P au:=.sl sz xs a b zs c
end
theorem cL{α:Type}{l:List α}{j:Nat}{x:α}(h:l[j]?=some x):decide ((j:Int)<(l.length:Int))=true:=by grind
def cK{α:Type}{l:List α}{j:Nat}(h:l.length<=j):decide ((j:Int)<(l.length:Int))=false:=ff (by omega)
variable {h i:Int}
def IQ(a:i<h+1):decide (i<=h)=true:=fU (by omega)
def Ah(a:h<=i):decide (i<h)=false:=ff (by omega)
def IA(a:h+1<=i):decide (i<=h)=false:=ff (by omega)
def zL{α:Type}(e:e9 α){l m:List α}{a:Int}(h:hB l a (l.length:Int)=some m):nr e.sz (bc e l) a ((bc e l).length:Int) (bc e m):=by rw[lR];exact sl e h
def zj(P:Program)(T:Nat):List (Nat×Nat)->Nat->Prop
 |[],_=>True
 |(off,_)::r,n=>zX P T n off/\zj P T r (n+1)
def zj.get{P:Program}{T:Nat}:∀{b7:List (Nat×Nat)} {n f off sz:Nat},zj P T b7 n->b7[f]?=some (off,sz)->zX P T (n+f) off
 |[],_,_,_,_,_,h=>by simp at h
 |(o,s)::r,n,0,off,sz,H,h=>by simp at h;obtain⟨rfl,rfl⟩:=h;exact H.1
 |(o,s)::r,n,f+1,off,sz,H,h=>by
  have:=zj.get (f:=f) (off:=off) (sz:=sz) H.2 (by simpa using h)
  rwa [Nat.add_right_comm,mD]at this
def y4(P:Program)(T:Nat):List (Nat×Nat)->List Bool->Nat->Prop
 |(off,b)::r,a::s,n=>v8 P T n off b a/\y4 P T r s (n+1)
 |_,_,_=>True
def y4.get{P:Program}{T:Nat}:∀{b7:List (Nat×Nat)} {O:List Bool} {n f off sz:Nat} {b5:Bool},y4 P T b7 O n->b7[f]?=some (off,sz)->O[f]?=some b5->v8 P T (n+f) off sz b5
 |[],_,_,_,_,_,_,_,h,_=>by simp at h
 |_::_,[],_,_,_,_,_,_,_,h=>by simp at h
 |(o,s)::r,g::O,n,0,off,sz,b5,Q,h,H=>by simp at h H;obtain⟨rfl,rfl⟩:=h;subst H;exact Q.1
 |(o,s)::r,g::O,n,f+1,off,sz,b5,Q,h,H=>by
  have:=y4.get (f:=f) (off:=off) (sz:=sz) (b5:=b5) Q.2 (by simpa using h) (by simpa using H)
  rwa [Nat.add_right_comm,mD]at this
def adM{P:Program}{T:Nat}{zs:hD}{a:List (Nat×Nat)}{b:List Bool}(g:zY P T zs a)(c:zj P T a 0)(d:y4 P T a b 0):iN P T (.struct zs a b):=
 ⟨g,λf i j h=>by have:=c.get h;rwa [hR]at this,λf i j k h e=>by have:=d.get h e;rwa [hR]at this⟩
variable {f:FuncId}
def aFJ{P:Program}{d σ2 σ3:ah}{args:List U}{r r':U}(bL:cR)(h:cz au P f d args (λa b=>a=r/\b=σ2))(l:gR σ3.ids (σ2.freeze bL) r=some r')(i:(σ2.freeze bL).at σ3.ids=some σ3):
  cz au P f d args (λa b=>a=r'/\b=σ3):=λv C I D B x k=>hV (h v C I D B x k) λ_ _ ⟨e,z,F,b,E,g,⟨j,p⟩,m,n⟩=>by
 subst j p;obtain⟨u,bt,c⟩:=n.Cm bL;refine⟨e,z,r',σ3,u,g,⟨rfl,rfl⟩,(nW l).rep c e (yL bt (fQ.refl g) _ _ m),c.sub λw o y=>?_⟩;obtain⟨A,s,t,q⟩:=nX σ3 w o y;rw[<-t,<-q];exact(aFq i).1.mem A s
def e0.at{P:Program}{f:FuncId}{O σ2:ah}{args:List U}{r:U}(l:List (Nat×Nat))(h:cz au P f O args (λa H=>a=r/\H=σ2)):
  cz au P f (O.cC (mH l)) (k1 (mH l) args) (λa H=>a=r.cC (mH l)/\H=σ2.cC (mH l)):=
 (h.at l).mono λa s S=>by
  obtain⟨Y,ahN,⟨rfl,rfl⟩,X,Q⟩:=S;exact⟨X,Q⟩
def qx(bu:eX)(env:av)(σ:ah):ResultVar->Option U
 |.tmp t=>env.find t
 |.cell a b=>match env.find a with
  |some (.ptr d 0)=>(match σ.get d with
   |some (.cells _ cs)=>(match bu.get b with
    |some i=>bif Nat.beq cs.length i.sz&&(i.b5||Nat.blt 0 i.sz)then kS i.b5 i.sz cs else none
    |none=>none)
   |_=>none)
  |_=>none
def Dr(bu:eX)(env:av)(σ:ah):List ResultVar->Option (List U)
 |[]=>some []
 |a::r=>match qx bu env σ a with|none=>none|some x=>match Dr bu env σ r with|none=>none|some xs=>some (x::xs)
def H8(bu:eX)(env:av)(σ:ah):List ResultVar->Option U
 |[]=>some (.bO [])
 |[a]=>qx bu env σ a
 |[a,b]=>match qx bu env σ a with|none=>none|some x=>match qx bu env σ b with|none=>none|some y=>some (.bO [x,y])
 |[a,b,c]=>match qx bu env σ a with|none=>none|some x=>match qx bu env σ b with|none=>none|some y=>match qx bu env σ c with|none=>none|some z=>some (.bO [x,y,z])
 |a::b::c::d::r=>match Dr bu env σ (a::b::c::d::r)with|none=>none|some xs=>some (.bO xs)
def tb{P:Program}{N:Nat}{ids:cR}{bu:eX}(W:gM P bu){env:av}{σ:ah}{v:ResultVar}{a:U}(h:qx bu env σ v=some a):l4 ⟨P,N,ids,au⟩ env σ v a:=by
 cases v with
 |tmp t=>exact Fl.tmp h
 |cell p j=>
  simp only[qx]at h;split at h
  .rename_i l d;split at h
   .rename_i k f g;split at h
    .rename_i i c;generalize b:(Nat.beq f.length i.sz&&_)=e at h;cases e with
     |false=>cases h
     |true=>
      simp only[cm]at h;rw[b9]at b;exact Fl.cell (gI.get W.tys c).ty (aFp d) g b.1 b.2 h
    .cases h
   .cases h
  .cases h
def Nx{P:Program}{N:Nat}{ids:cR}{bu:eX}(W:gM P bu){env:av}{σ:ah}:∀{l:List ResultVar} {xs:List U},Dr bu env σ l=some xs->uh ⟨P,N,ids,au⟩ env σ l xs
 |[],xs,h=>by cases h;exact .nil
 |a::r,xs,h=>by
  simp only[Dr]at h;split at h
  .cases h
  .rename_i x b;split at h
   .cases h
   .rename_i d c;cases h;exact .cons (tb W b) (Nx W c)
def ZP{P:Program}{N:Nat}{ids:cR}{bu:eX}(W:gM P bu){env:av}{σ:ah}{l:List ResultVar}{a:U}(h:H8 bu env σ l=some a):mR ⟨P,N,ids,au⟩ env σ l a:=by
 unfold H8 at h;split at h
 .cases h;exact .zero
 .exact .one (tb W h)
 .split at h
  .cases h
  .rename_i x b;split at h
   .cases h
   .rename_i y c;cases h;exact .two (tb W b) (tb W c)
 .split at h
  .cases h
  .rename_i x b;split at h
   .cases h
   .rename_i y c;split at h
    .cases h
    .rename_i f e;cases h;exact .three (tb W b) (tb W c) (tb W e)
 .split at h
  .cases h
  .rename_i xs d;cases h;exact .more (Nx W d) (by simp)
def zM(bu:eX)(ids:cR)(f:List lI)(c:cR)(l:List ResultVar)(env:av)(σ:ah):Option (U×ah):=match uo ids f env σ with
 |none=>none
 |some (e,s)=>match H8 bu e s l with
  |none=>none
  |some a=>match gR c s a with
   |none=>none
   |some b=>match s.at c with
    |none=>none
    |some d=>some (b,d)
def pn(G:bI)(fn:Func)(Post:U->ah->Prop):Exit->av->ah->Prop:=λc env σ=>∃a b,cZ G env σ a b/\Nq G fn Post c a b
variable {fn:Func}
def aFH{P:Program}{N:Nat}{ids:cR}{bu:eX}(W:gM P bu){env:av}{σ σ2:ah}{R:U}{e:Exit}(l:List lI)(m:(match e with|.ret|.normal=>true|_=>false)=true)(h:zM bu ids l σ2.ids fn.results.toList env σ=some (R,σ2)):
  pn ⟨P,N,ids,au⟩ fn (λa b=>a=R/\b=σ2) e env σ:=by
 simp only[zM]at h;split at h
 .cases h
 .rename_i f c n;split at h
  .cases h
  .rename_i a j;split at h
   .cases h
   .rename_i q i;split at h
    .cases h
    .rename_i p k;cases h;refine⟨f,c,y3 n,?_⟩;have o:∃d x r b,mR ⟨P,N,ids,au⟩ f (c.freeze d) fn.results.toList x/\gp (c.freeze d) x r/\(∀g∈b,(c.freeze d).get g.1=some g.2)/\(r=R/\b=σ2):=by
      refine⟨[],a,R,σ2,?_,?_,?_,rfl,rfl⟩
      .rw[aFC];exact ZP W j
      .rw[aFC];exact nW i
      .rw[aFC];exact(aFq k).1.mem
     cases e<;>first|exact o|cases m
def a5{P:Program}{c:Code}{a:ah}{args:List U}{Post:U->ah->Prop}(d:P.funcs[f]?=some fn)(b:fn.body=some c)(e:Nat.ble args.length fn.ntmps=true)
  (h:ar ⟨P,fn.ntmps,a.ids,au⟩ c (pn ⟨P,fn.ntmps,a.ids,au⟩ fn Post) (tc 0 args) a):cz au P f a args Post:=
 cz.enter d b (qu e) λ_=>aFY h
theorem CK{α:Type}{a b l:List α}(h:dm a b=some l):l=a++b:=by
 unfold dm at h
 grind
theorem Cf{P:Program}{D E sz:Nat}{xs ys:List (List U)}(u:∀n c w,Calls P f #[.slice none n c] w λe w'=>e=.returned (.slice none 0 0)/\w'=w)
    (r:xs≠[]->cz au P f [] [.bn false xs] (λa d=>a=.own D/\d=[(D,.slice E sz ys 0 false)])) (m:xs=[]->cz au P f [] [.gj] (λa d=>a=.own D/\d=[(D,.slice E sz ys 0 false)]))
    (t:xs=[]->ys=[]):cz au P f [] [.bn false xs] (λa d=>a=.own D/\d=[(D,.slice E sz ys 0 false)]):=by
  intro q w I l z i j;by_cases b:xs=[]
  · have g:=t b
    subst b g;simp only[bD,aD,a1]at j;obtain⟨G,B,rfl,⟨a,c,rfl,_,s,_,_⟩,rfl⟩:=j;cases a with
    |some p=>exact m rfl q w I l _ i (by simp only[bD,aD,a1];exact⟨_,_,rfl,⟨_,_,rfl,s⟩,rfl⟩)
    |none=>
      refine hV (u _ _ w) ?_;rintro e w' ⟨rfl,rfl⟩;refine⟨_,rfl,.own D,_,I,λk=>if k=D then .slice none 0 0 else l k,⟨rfl,rfl⟩,by simp[aD,gU],?_⟩
      exact{i with
        bY:=λx o h=>by
          rw[aFc]at h;split at h
          · rename_i e;subst e;injection h with h;subst h
            simp only[bl,fE]
            grind
          · simp[ah.get]at h
        cQ:=λx y b g A F m C=>by
          rw[aFc]at b g;split at b
          · rename_i e;subst e
            split at g
            · omega
            · simp[ah.get]at g
          · simp[ah.get]at b
        tab:=i.tab,keep:=λk v=>by simp[ah.ids]at v}
  · exact r b q w I l z i j
def RI(Q:Exit->av->ah->Prop):Exit->av->ah->Prop
 |.goto _,_,_=>False
 |e,env,σ=>Q e env σ
def A.scope{G:bI}{c:Code}{Q:Exit->av->ah->Prop}{env:av}{σ:ah}(h:ar G c (RI Q) env σ):ar G (.scope c) Q env σ:=by
 refine aFw λcx a w O=>wp_scope_straight (wp_mono (ar.use h cx a w O) ?_);rintro e Z w' ⟨X,S,Y,H⟩;cases e<;>first|exact⟨X,S,Y,H⟩|exact H.elim
def A.label{G:bI}{l:Nat}{Q:Exit->av->ah->Prop}{env:av}{σ:ah}(h:Q .normal env σ):ar G (.label l) Q env σ:=aFw λ_ _ _ H=>wp_label ⟨env,σ,H,h⟩
end
end
section
open Go Go.ChangeShapes Go.WideShapes Go.ChangeAt Go.RowKit
variable {au:Bool}
structure vg(P:Program)(T:Nat){α:Type}(enc:α->List U)(n:Nat):Prop where
 cells:P.cellsOf T=n
 read:∀(fc:Type) (mV:TypeId×Value->fc) (w:World) (g2:Nat) (kI:Nat->Bool) (hd:Bool) (fuel:Nat) (cs:hD) (x:DataW fc×List MemPlace),
  DataW.trod mV P w g2 kI hd fuel T cs=some x->∃a:α,bP (fu w) (enc a) cs
variable {P:Program}{T:Nat}
def ZQ{k:IntKind}(h:P.underlying T=some (.int k))(b:P.cellsOf T=1):vg P T (λn:Int=>[.int k n]) 1:=by
 refine⟨b,λfc m o i l j fuel g p a=>?_⟩;cases fuel with
 |zero=>cases a
 |succ n=>
  unfold DataW.trod at a;rw[h]at a;split at a<;>first|(simp at a;done)|skip
  all_goals (rename_i c;cases c)
  rename_i f e;split at a
  .rename_i d;obtain⟨rfl,_⟩:=d
   exact⟨e,by simp[bP,a1]⟩
  .cases a
def IT{α β:Type}{f:α->Option β}:∀{l:List α} {r:List β},l.mapM f=some r->r.length=l.length/\∀(i:Nat) (a:α),l[i]?=some a->∃b:β,f a=some b/\r[i]?=some b
 |[],r,h=>by simp at h;subst h;exact⟨rfl,λi a c=>by simp at c⟩
 |x::l,r,h=>by
  rw[List.mapM_cons]at h;cases e:f x with
  |none=>rw[e]at h;cases h
  |some y=>
   rw[e]at h;cases d:l.mapM f with
   |none=>rw[d]at h;cases h
   |some k=>
    rw[d]at h;cases h;obtain⟨j,g⟩:=IT d;refine⟨by simp[j],λi a c=>?_⟩;cases i with
    |zero=>simp at c;subst c;exact⟨y,e,rfl⟩
    |succ i=>simpa using g i a (by simpa using c)
theorem KK{α β:Type}{p:Nat->β->Prop}:∀(n:Nat),(∀i,i<n->∃b,p i b)->∃l:List β,l.length=n/\∀i b,l[i]?=some b->p i b
 |0,_=>⟨[],rfl,λi b a=>by simp at a⟩
 |n+1,a=>by
  obtain⟨l,c,f⟩:=KK (α:=α) n (λi d=>a i (by omega));obtain⟨b,e⟩:=a n (by omega);refine⟨l++[b],by simp[c],λi h g=>?_⟩;by_cases d:i<n
  .grind
  .grind
variable {a:Addr}
theorem XD{w:World}{e:Nat}{n:Nat}{cs:hD}(h:w.cells? e a n=some cs):cs.length=n/\∀i v,cs[i]?=some v->w.cell? (a.add i)=some v:=by
 unfold World.cells? at h;split at h
 .obtain⟨f,d⟩:=IT h;have b:cs.length=n:=by simpa using f
  refine⟨b,λi v c=>?_⟩;have g:i<n:=by rw[<-b];exact(k0.1 c).1
  obtain⟨l,j,k⟩:=d i i (by simp[g])
  grind
 .cases h
def Kw{α:Type}{I:a8}{b sz:Nat}{enc:α->List U}:∀(l:List α) (o:Nat),(∀r,(enc r).length=sz)->(∀i a,l[i]?=some a->iw I b (enc a) (o+i*sz))->fT I b (l.map enc) o
 |[],_,_,_=>trivial
 |x::r,o,c,h=>by
  simp only[dr,fT];refine⟨by simpa using h 0 x rfl,?_⟩;rw[c x];refine Kw r (o+sz) c λi a d=>?_;have:=h (i+1) a (by simpa using d)
  rwa [ha,qv,Nat.add_comm (i*sz),<-mD]at this
def X3(h:a.spot=none)(i:Nat):a.add i=⟨a.block,a.off+i,none⟩:=by
 obtain⟨b,c,d⟩:=a;simp only at h;subst h;exact i5 b c i
variable {E:Nat}{α:Type}
theorem XE{e:e9 α}(h:P.underlying T=some (.slice E))(t:P.cellsOf T=1)(x:vg P E e.enc e.sz)(W:0<e.sz):vg P T (λl:List α=>[.bn false (bc e l)]) 1:=by
 refine⟨t,λfc F f k C B fuel Z ab b=>?_⟩;cases fuel with
 |zero=>cases b
 |succ n=>
  unfold DataW.trod at b;rw[h]at b;split at b<;>first|(simp at b;done)|skip
  all_goals (rename_i Q;try cases Q)
  .refine⟨[],?_⟩;simp only[bP,a1,bc,mO];exact⟨_,_,rfl,⟨none,0,rfl,by simp,by simp[maxLen],by simp,by simp⟩,rfl⟩
  .rename_i a i aY;split at b
   .rename_i p;obtain⟨_,O,I⟩:=p;dsimp only at b;generalize S:(List.range i).mapM (λc=>(f.cells? k (a.add (c*P.cellsOf E)) (P.cellsOf E)).bind (DataW.trod F P f k C B n E))=K at b;cases K with
    |none=>cases b
    |some M=>
     obtain⟨H,J⟩:=IT S;have V:M.length=i:=by simpa using H
     have D:∀c,c<i->∃g:α,∃d:hD,bP (fu f) (e.enc g) d/\∀m o,d[m]?=some o->f.cell? ((a.add (c*P.cellsOf E)).add m)=some o:=λc R=>by
      obtain⟨U,j,_⟩:=J c c (by simp[R]);cases q:f.cells? k (a.add (c*P.cellsOf E)) (P.cellsOf E)with
      |none=>rw[q]at j;cases j
      |some d=>
       rw[q]at j;obtain⟨g,p⟩:=x.read fc F f k C B n d U j;exact⟨g,d,p,(XD q).2⟩
     obtain⟨l,y,L⟩:=KK (α:=Unit) i D;refine⟨l,?_⟩;simp only[bP,a1];refine⟨_,_,rfl,⟨some a,aY,by rw[lR,y],by rw[lR,y];exact O,I,by simp,?_⟩,rfl⟩;by_cases Y:i=0
     .left;have:l=[]:=mN (by omega);subst this;rfl
     .right;have w:a.spot=none:=by
       obtain⟨g,d,v,r⟩:=D 0 (by omega);have A:d.length=e.sz:=by rw[jG _ _ v,e.hz]
       cases z:d with
       |nil=>rw[z]at A;simp at A;omega
       |cons u X=>
        have:=r 0 u (by rw[z];rfl);simp only[Nat.zero_mul,Addr.add,fE]at this;simp only[World.cell?]at this;split at this
        .simp_all
        .grind
      refine⟨a.block,a.off,?_,?_⟩
      .obtain⟨g,aa,s⟩:=a;simp only at w;subst w;rfl
      .refine Kw l a.off e.hz λc N t=>?_;obtain⟨d,v,r⟩:=L c N t;refine Cl _ _ d v λm o G=>?_;have:=r m o G;rw[x.cells,X3 w,i5]at this;exact this
   .cases b
structure Ji(P:Program)(T:Nat){α:Type}(bN:α->U)(ok:α->Prop):Prop where
 read:∀(fc:Type) (mV:TypeId×Value->fc) (w:World) (g2:Nat) (v:Value) (d:DataW fc) (ps:List MemPlace),Value.okWide P w .any g2 T v->DataW.Trod mV P w 0 (λ_=>true) true T v d ps->∃a:α,ok a/\a1 (fu w) (bN a) v
theorem ZR{bN:α->U}(f:vg P T (λa=>[bN a]) 1)(g:∀w b v,Value.okWide P w .any b T v->v.cells=#[v]):Ji P T bN (λ_=>True):=by
 refine⟨λfc i w b v h j e c=>?_⟩;obtain⟨fuel,c⟩:=c;obtain⟨a,d⟩:=f.read _ _ _ _ _ _ _ _ _ c;rw[g w b v e]at d;simp only[bP]at d
 grind
def XF(h:P.underlying T=some (.slice E))(w:World)(b:Nat)(v:Value)(a:Value.okWide P w .any b T v):v.cells=#[v]:=by
 simp only[Value.okWide,h,Cell.okWide,Cell.ok]at a;cases v<;>first|rfl|(simp at a;done)
structure zN(P:Program)(gX:List Nat){β:Type}(cM:β->List U)(ok:β->Prop):Prop where
 read:∀(fc:Type) (mV:TypeId×Value->fc) (w:World) (g2:Nat) (vs:hD) (cq:List (DataW fc)) (ps:List MemPlace),(∀(j:Nat) t v,gX[j]?=some t->vs[j]?=some v->Value.okWide P w .any g2 t v)->
  DataW.TrodAll mV P w 0 (λ_=>true) true gX vs cq ps->∃b:β,ok b/\bP (fu w) (cM b) vs
def X4:zN P [] (λ_:Unit=>[]) (λ_=>True):=⟨λ_ _ _ _ c a _ _ b=>by
 cases c<;>cases a<;>first|exact⟨(),trivial,rfl⟩|exact b.elim⟩
variable {β:Type}
def XG{m:cR}{h:α->U}{k:β->List U}{j:α->Prop}{i:β->Prop}(z:Ji P T h j)(t:zN P m k i):zN P (T::m) (λp:α×β=>h p.1::k p.2) (λp=>j p.1/\i p.2):=by
 refine⟨λfc n o l f e D g b=>?_⟩;cases f with
 |nil=>cases e<;>exact b.elim
 |cons c f=>
  cases e with
  |nil=>exact b.elim
  |cons d e=>
   obtain⟨p,B,s,v,_⟩:=b;obtain⟨a,x,r⟩:=z.read fc n o l c d p (g 0 T c rfl rfl) s;obtain⟨y,w,q⟩:=t.read fc n o l f e B (λA C c b u=>g (A+1) C c (by simpa using b) (by simpa using u)) v;exact⟨(a,y),⟨x,w⟩,by simp only[bP];exact⟨c,f,rfl,r,q⟩⟩
def Kx{fc:Type}{enc:TypeId×Value->fc}{P:Program}(f:laidOutB P=true){W W':World}{l:Nat->Bool}(e:Below W.heap.size W W'):∀{c:cR} {vs:hD} {a:List (DataW fc)} {ps:List MemPlace},(∀t∈c,P.readableRec t=true/\t<P.types.size)->
  DataW.TrodAll enc P W 0 (λ_=>true) true c vs a ps->(∀x∈ps,x.block<W.heap.size)->(∀x∈ps,l x.block=true)->DataW.TrodAll enc P W' 0 l true c vs a ps
 |[],vs,a,ps,_,h,_,_=>by cases vs<;>cases a<;>exact h
 |t::c,vs,a,ps,j,h,i,g=>by
  cases vs with
  |nil=>cases a<;>exact h.elim
  |cons v vs=>
   cases a with
   |nil=>exact h.elim
   |cons d a=>
    obtain⟨p,q,m,n,rfl⟩:=h;have k:=j t (by simp)
    exact⟨p,q,WideElems.Trod_stays f k.1 k.2 m (λx b=>e.same (i x (by simp[b]))) (λx b=>g x (by simp[b])),
     Kx f e (λt o=>j t (by simp[o])) n (λx b=>i x (by simp[b])) (λx b=>g x (by simp[b])),rfl⟩
variable {f vh:Nat}{fc:Type}{enc:TypeId×Value->fc}{fn:Func}
theorem XH{s:ChangeSpec}(D:laidOutB P=true)(q:fn.resultTypes=#[vh])(r:P.underlying vh=some .bool)(y:s.vars=[])
    (V:∀t∈fn.params.toList,P.readableRec t=true/\t<P.types.size) {W:World} (J:au=true->ug (fu W)) {args:ig} (N:∃l:List U,bP (fu W) l args.toList/\bb au P f [] l (.bool true))
    (T:∀a:List (DataW fc),a.length=fn.params.size->(s.fn fc a).results=[.lit (.bool true)]/\(s.fn fc a).args=a/\(s.fn fc a).vars=[])
    (X:Nat) (a Y:List (DataW fc)) (Q:List MemPlace) (ao:∀(j:Nat) t v,fn.params[j]?=some t->args[j]?=some v->Value.okWide P W .any X t v)
    (w:DataW.Whole enc P fn.params.toList s.vars false W args.toList a Y Q) :
    Calls P f args W λe W'=>∃v,e=.returned v/\s.post enc P fn false true false false W args v W':=by
  have o:=w;obtain⟨g,aA,E,x,rfl,ae,ar⟩:=w;rw[y]at x;obtain⟨rfl,rfl⟩:=trodVars_none x;simp only[l5]at o;obtain⟨l,C,S⟩:=N
  have K:bE ⟨P,0,[],au⟩ (kC (fu W) (λ_=>.nilFunc) [] W) (fu W) (λ_=>.nilFunc) [] W:=
    {good:=yg,fA:=x9,fV:=b1.refl _,gm:=λ_ _ _ _=>rfl,frame:=λ_ _ _=>rfl,size:=eb _,tape:=rfl,os:=rfl,output:=rfl,drawn:=eb _,
     bY:=λB az c=>by simp[ah.get]at c,cQ:=λB aq c=>by simp[ah.get]at c,keep:=λB c=>by simp at c,tab:=J}
  have u:=S _ W (fu W) (λ_=>.nilFunc) args.toList K C.H7;rw[Array.toArray_toList]at u;refine hV u ?_;rintro e W' ⟨v,rfl,aB,aj,ak,aC,⟨rfl,rfl⟩,O,i⟩;have F:=sY O;subst F;have z:Below W.heap.size W W':=⟨i.os,i.tape,i.output,i.size,λaa Z=>i.frame aa Z (by simp[kC,rq,ah.ids])⟩;have M:a.length=fn.params.size:=by
    have ay:∀(k:cR) (m:hD) (a:List (DataW fc)) (p:List MemPlace),DataW.TrodAll enc P W 0 (λ_=>true) true k m a p->a.length=k.length:=by
      intro k;induction k with
      |nil=>intro m a p d;cases m<;>cases a<;>first|rfl|exact d.elim
      |cons t k H=>
        intro m a p d;cases m<;>cases a<;>first|exact d.elim|skip
        obtain⟨_,_,_,I,_⟩:=d;simp[H _ _ _ I]
    grind
  obtain⟨aw,ax,L⟩:=T a M;have G:∀h∈g,h.block<W.heap.size:=λh n=>by simpa using o.lt h n
  have ag:∀(A:Nat) (b:Nat->Bool) (c:Bool),DataW.TrodAll enc P W' A b c fn.resultTypes.toList ((Value.bool true).resultList fn.resultTypes.size) [DataW.lit (.bool true)] []:=λA b c=>by
    rw[q];exact trodAll_mk1 (shut_bool r true)
  have an:∀b:Nat->Bool,(∀h∈g,b h.block=true)->DataW.TrodAll enc P W' 0 b true fn.params.toList args.toList a g:=λb R=>Kx D z V E G R;have am:=ok_one (P:=P) (W':=W') q rfl (okWide_bool_mk r true);have ab:∀b:Nat->Bool,DataW.TrodVars enc P W' b s.vars (s.fn fc a).vars []:=λb=>by rw[y,L];rfl
  refine⟨_,rfl,a,[],g,[],g,[],by simpa using o,?_,?_,?_,World.keptBut_mono (λh n=>⟨n,.inr (.inl n)⟩) (z.frame (·∈g)),λd=>by cases d⟩
  · grind
  · grind
  · grind
def X5{s:ChangeSpec}{i:β->List U}{l:β->Prop}(m:laidOutB P=true)(o:fn.resultTypes=#[vh])(u:P.underlying vh=some .bool)(x:s.vars=[])
  (A:∀t∈fn.params.toList,P.readableRec t=true/\t<P.types.size) (w:zN P fn.params.toList i l) (y:∀b,l b->bb au P f [] (i b) (.bool true))
  (z:∀a:List (DataW fc),a.length=fn.params.size->(s.fn fc a).results=[.lit (.bool true)]/\(s.fn fc a).args=a/\(s.fn fc a).vars=[])
  (W:World) (r:au=true->ug (fu W)) (c:Nat) (args:ig) (a k:List (DataW fc)) (g:List MemPlace) (h:∀(j:Nat) t v,fn.params[j]?=some t->args[j]?=some v->Value.okWide P W .any c t v)
  (d:DataW.Whole enc P fn.params.toList s.vars false W args.toList a k g) :
  Calls P f args W λe W'=>∃v,e=.returned v/\s.post enc P fn false true false false W args v W':=by
 refine XH m o u x A r ?_ z c a k g h d;obtain⟨D,E,n,_⟩:=d;obtain⟨b,C,p⟩:=w.read fc enc W c args.toList a D (λj t v B q=>h j t v (by simpa using B) (by simpa using q)) n;exact⟨_,p,y b C⟩
end
section
open Go
variable {au:Bool}
variable {P:Program}{bu:eX}
def IU(op:Op)(env:av):Option (cf×cb):=match op with
 |.makeFunc (.func f) first aY=>match first.toList with
  |[x]=>(match aY.toList with
   |[]=>(match env.cn x with
    |some (.ptr d 0)=>some (.y [] (.cU (.ia f) d),([],[]))
    |_=>none)
   |_=>none)
  |_=>none
 |_=>none
variable {N:Nat}{aeo:cb}{env:av}{o:Oper}{σ:ah}
def aba{ids:cR}{s:cf}(h:IU o.op env=some (s,aeo)):eu ⟨P,N,ids,au⟩ o env σ s:=by
 unfold IU at h;split at h
 .rename_i f first aY c;split at h
  .rename_i b g;split at h
   .rename_i j;split at h
    .rename_i v d;cases h;have l:first=#[b]:=by simpa using fq List.toArray g
     have m:aY=#[]:=by simpa using fq List.toArray j
     subst l m;refine Yields.pure λr u p x w i t q n=>?_;have a:=n b (by simp[c,Op.operands]);rw[aFb d]at a
     simp only[aD,k2.rep]at a;obtain⟨k,a,e⟩:=a;exact⟨.func (.func f) #[i b] #[],by simp[execOp,c,Instr.makeFunc],by simp only[aD,k2.rep];exact⟨k,a,by rw[e]⟩⟩
    .cases h
   .cases h
  .cases h
 .cases h
def Al:Hint P au:=.gs false ([],[]) (λ_ b env _=>IU b env) λ_ _ _ _ _ _ _ a _=>aba a
def H9(bu:eX)(op:Op)(env:av):Option (cf×cb):=match op with
 |.call ⟨.builtin .len,args,b⟩=>match args.toList with
  |[x]=>(match b.toList with
   |[a]=>(match bu.get a with
    |some ⟨_,_,_,.slice _ _ _ _⟩=>(match env.cn x with
     |some (.cU (.mU c) _)=>some (.y [] (.int .i64 (c:Int)),([],[]))
     |_=>none)
    |_=>none)
   |_=>none)
  |_=>none
 |_=>none
def ZS(W:gM P bu){ids:cR}{s:cf}(h:H9 bu o.op env=some (s,aeo)):eu ⟨P,N,ids,au⟩ o env σ s:=by
 unfold H9 at h;split at h
 .rename_i args t f;split at h
  .rename_i e l;split at h
   .rename_i i q;split at h
    .rename_i j;have g:=(gI.get W.tys j).kd;simp only[iN]at g;split at h
     .rename_i d z k;cases h;have b:args=#[e]:=by simpa using fq List.toArray l
      have p:t=#[i]:=by simpa using fq List.toArray q
      subst b p;refine Yields.pure λw y u B A m x v r=>?_;have c:=r e (by simp[f,Op.operands,Call.operands]);rw[aFb k]at c
      simp only[aD,k2.rep]at c;obtain⟨n,_,a⟩:=c;have a:m e=.slice (some ⟨n,0,none⟩) d d:=a;have b:=ja (P:=P) g.1.fz;exact⟨.int .i64 d,by simp[execOp,f,resolve,invoke,builtin,Builtin.len_,a,b,goInt],by simp[aD,a1]⟩
     .cases h
    .cases h
   .cases h
  .cases h
 .cases h
def acI(W:gM P bu):Hint P au:=.gs false ([],[]) (λ_ b env _=>H9 bu b env) λ_ _ _ _ _ _ _ a _=>ZS W a
def IG(bu:eX)(op:Op)(env:av):Option (cf×cb):=match op with
 |.indexAddr a x y=>match bu.get a with
  |some ⟨_,_,_,.slice _ b _ _⟩=>(match env.cn x with
   |some (.cU (.mU n) d)=>(match env.cn y with
    |some (.int _ i)=>bif decide (0<=i)&&decide (i<n)then some (.y [] (.ptr d (i.toNat*b)),([],[]))else none
    |_=>none)
   |_=>none)
  |_=>none
 |_=>none
def abb(W:gM P bu){ids:cR}{s:cf}(h:IG bu o.op env=some (s,aeo)):eu ⟨P,N,ids,au⟩ o env σ s:=by
 unfold IG at h;split at h
 .rename_i y l w b;split at h
  .rename_i A C D z u B E m;have d:=(gI.get W.tys m).kd;simp only[iN]at d;split at h
   .rename_i k J n;split at h
    .rename_i K j p;generalize g:(decide (0<=j)&&_)=t at h;cases t with
     |false=>cases h
     |true=>
      simp only[b9,eY]at g;cases h;refine Yields.pure λG I x M L r H F i=>?_;have f:=i l (by simp[b,Op.operands]);rw[aFb n]at f
      have a:=i w (by simp[b,Op.operands]);rw[aFb p]at a;have a:=g1 a
      simp only[aD,k2.rep]at f;obtain⟨e,q,c⟩:=f;have c:r l=.slice (some ⟨e,0,none⟩) k k:=c;have v:=ja (P:=P) d.1.fz;exact⟨.pointer (some ⟨e,j.toNat*u,none⟩),by simp[execOp,b,a,c,Instr.indexAt,asIntOf,v,g,d.1.size,i5],by simp only[aD];exact⟨e,q,rfl⟩⟩
    .cases h
   .cases h
  .cases h
 .cases h
def Ia(W:gM P bu):Hint P au:=.gs false ([],[]) (λ_ b env _=>IG bu b env) λ_ _ _ _ _ _ _ a _=>abb W a
variable {G:bI}
def aHg{ev:Operand->U}{T E sz len d:Nat}{parts:Array (Nat×Operand)}{zs:hD}{xs:List (List U)}(h:o.op=.buildSlice T len parts)(n:uj G.P T E sz zs)(t:parts.size=len)(W:len*sz<=65536/\len<=65536)
  (A:qe sz 0 (parts.toList.map λp=>(p.1,ev p.2))=some xs) (S:lZ (Nat.beq d) xs.flatten=false) (hi:G.ids.contains d=false):Yields G o ev ((d,.cells E xs.flatten)::σ) [d] [d] (.cU (.mU len) d):=by
 intro V ab I β b g B q P Q;have O:∀p∈parts.toList,aD I β (ev p.2) (g p.2):=λp x=>Q p.2 (by simp only[h,Op.operands];simpa using ⟨p.1,by simpa using x⟩);obtain⟨m,F,Y⟩:=n.zero b
 let a:ig:=(Array.range (len*sz)).map ((if len*sz=0 then #[]else m.cells)[·%(if len*sz=0 then #[]else m.cells:ig).size]!)
 have v:a.size=len*sz:=by simp[a]
 obtain⟨l,z,C,X,J,K,aa,Z⟩:=B5 (I:=I) (β:=β) sz (parts.toList.map λp=>(p.1,ev p.2)) (parts.toList.map λp=>(p.1,g p.2)) 0 a xs
  ⟨by simp,λR p ae c i=>by
   simp only[l7]at c i;cases e:parts.toList[R]? with
   |none=>rw[e]at c;cases c
   |some y=>
    rw[e]at c i;simp only[iS,ee]at c i;subst c i;exact⟨rfl,O y (nw e)⟩⟩ A (by simp[v,t])
 have L:l.toList=z:=by
  rw[J];have H:a.toList.drop ((0+(parts.toList.map λp=>(p.1,ev p.2)).length)*sz)=[]:=List.drop_of_length_le (by simp[v,t]);rw[H];simp
 have D:(execOp g o).run G.P b=.ok (.value (.slice (some ⟨b.heap.size,0,none⟩) len len)) (b.alloc (.cells l E)):=by
  have M:¬(len*sz>2 ^ 24):=by have:(2:Nat) ^ 24=16777216:=by decide
                              omega
  have f:Instr.fill (λs=>some (s*sz,sz)) a (parts.map λ(s,w)=>(s,g w)).toList=some l:=by simpa using C
  simp only[execOp,h,Instr.buildSlice,fD,ja n.fz,n.size,gQ,M,h0];by_cases k:len*sz=0
  .have r:a=(Array.range (len*sz)).map ((#[]:ig)[·%(#[]:ig).size]!):=by simp only[a,k,fE]
   rw[r]at f;simp only[k,fE,fD,jq,gQ]at f ⊢;simp only[f];simp[newRow]
  .have r:a=(Array.range (len*sz)).map (m.cells[·%m.cells.size]!):=by simp only[a,k,h0]
   rw[r]at f;simp only[k,h0,fD,F,jq,gQ];simp only[f];simp[newRow]
 rw[D];have u:=P d (by simp);refine⟨I,gA β d (.pointer (some ⟨b.heap.size,0,none⟩)),by simp only[aD,k2.rep];exact⟨b.heap.size,by rw[gb];rfl,rfl⟩,?_,b1.refl I,λw e=>gx β _ (λN=>e (by simp[N]))⟩;refine q.real (by simpa using hi) u rfl λaeo j=>?_;rw[B d (by simp),aFc,bx rfl]at j;injection j with j
 subst j;simp only[bl,gb];refine .inr ⟨b.heap.size,l,rfl,pf b _,?_,λo=>q.ij (eb _) o,.inl q.size⟩;rw[L];exact Lq (b1.refl I) (aFO u) _ _ K
def Iw(bu:eX)(d:Nat)(ids:cR)(op:Op)(env:av):Option (cf×cb):=match op with
 |.buildSlice b len parts=>match bu.get b with
  |some ⟨_,_,_,.slice E a _ _⟩=>bif Nat.beq parts.size len&&(Nat.ble (len*a) 65536&&Nat.ble len 65536)&&!ids.contains d then(match env.ou parts.toList with
   |none=>none
   |some c=>match rt a 0 c with
    |none=>none
    |some xs=>bif !lZ (Nat.beq d) xs.flatten then some (.v d (.cells E xs.flatten) (.cU (.mU len) d),([],[]))else none)else none
  |_=>none
 |_=>none
def abc(W:gM P bu){d:Nat}{ids:cR}{s:cf}(h:Iw bu d ids o.op env=some (s,aeo)):eu ⟨P,N,ids,au⟩ o env σ s:=by
 unfold Iw at h;split at h
 .rename_i n l parts g;split at h
  .rename_i f;have e:=(gI.get W.tys f).kd;simp only[iN]at e;generalize a:(Nat.beq parts.size l&&_&&_)=k at h;cases k with
   |false=>cases h
   |true=>
    simp only[cm]at h;rw[b9,b9]at a;split at h
    .cases h
    .rename_i p i;split at h
     .cases h
     .rename_i m j;cases b:lZ (Nat.beq d) m.flatten with
      |true=>rw[b]at h;cases h
      |false=>
       rw[b]at h;cases h
       have c:ids.contains d=false:=by simpa using a.2
       exact⟨c,aHg (G:=⟨P,N,ids,au⟩) g e.2.2 (by simpa using a.1.1) (by simpa using a.1.2) (by rw[aFF i];exact BU _ j) b c⟩
  .cases h
 .cases h
def acC(W:gM P bu)(d:Nat):Hint P au:=.gs false ([],[]) (λids b env _=>Iw bu d ids b env) λ_ _ _ _ _ _ _ a _=>abc W a
variable {ch:ah}{d0:Nat}{f:FuncId}
def D.RJ{ev:Operand->U}{O:Operand}{k:Array TypeId}{Post:U->ah->Prop}(news:cR)(h:o.op=.call ⟨.value O,#[],k⟩)(ag:ev O=.cU (.ia f) d0)
  (ax:∀(args:ig) (w:World),(callFunc f args).run G.P w=.ok (.enter f args) w) (Y:∀p∈ch,σ.get p.1=some p.2)
  (aB:cz G.au G.P f ch [.ptr d0 0] Post) (aA:news.all (λd=>!G.ids.contains d&&(σ.get d).isNone)=true) (am:(σ.minus ch.ids).clean news.contains=true)
  (ar:∀r σ2,Post r σ2->r.refs (λd=>!(ch.ids++news).contains d)=false/\σ2.clean (λd=>!(ch.ids++news).contains d)=true) :
  fO G o ev σ (ch.ids++news) news (λr ab=>∃σ2,Post r σ2/\ab=σ2++σ.minus ch.ids):=by
 intro cx I β w Z S hop;have H:=hop O (by simp[h,Op.operands,Call.operands]);rw[ag]at H;simp only[aD,k2.rep]at H;obtain⟨b,aa,H⟩:=H;have H:Z O=.func (.func f) #[.pointer (some ⟨b,0,none⟩)] #[]:=H;have ao:(execOp Z o).run G.P w=.ok (.enter f #[.pointer (some ⟨b,0,none⟩)]) w:=by
  simp[execOp,h,resolve,H,Deferred.ofValue,invoke,ax]
 rw[ao];have ay:bD I β [.ptr d0 0] [.pointer (some ⟨b,0,none⟩)]:=by
  simp only[bD,aD];exact⟨_,_,rfl,⟨b,aa,rfl⟩,rfl⟩
 have ak:=S.mQ (P:=G.P) Y
 have az:∀d∈news,d∉G.ids/\σ.get d=none:=λd hd=>by
  have:=gE.1 aA d hd;simpa using this
 refine hV (aB _ w I β _ ak ay) ?_;rintro e w' ⟨v,aE,r,σ2,aj,aG,X,aq,an⟩;obtain⟨dJ,bz⟩:=ar r σ2 X;obtain⟨aC,Q,ae⟩:=S.after Y an news az am bz;refine⟨v,aE,r,_,aj,_,⟨σ2,X,rfl⟩,ae r v dJ aq,aC,Q,λd hd=>by simp[hd],λd hd=>?_⟩;have hd:d∉ch.ids/\d∉news:=by simpa using hd
 rw[aFy,aFh,bw hd.1];cases Q:σ2.get d with
 |some aw=>
  have:=(aFi bz d aw Q).1;have:(ch.ids++news).contains d=true:=by rw[<-qz];exact this
  exact absurd (dG.1 (ua.1 this)) (by simp[hd.1,hd.2])
 |none=>rfl
def Iz(ch:ah)(news:cR)(r:U)(σ2:ah)(ids:cR)(op:Op)(env:av)(σ:ah):Option (cf×cb):=match op with
 |.call c=>match c.callee with
  |.value b=>(match c.args.toList with
   |[]=>(match env.cn b with
    |some (.cU (.ia f) a)=>(match σ.at ch.ids with
     |none=>none
     |some d=>bif news.all (λa=>!ids.contains a&&(σ.get a).isNone)&&(σ.minus ch.ids).clean news.contains&&!r.refs (λa=>!(ch.ids++news).contains a)&&σ2.clean (λa=>!(ch.ids++news).contains a)then
      some (.e (ch.ids++news) news r (σ2++σ.minus ch.ids),([.fn f [],.ptr a 0],d))else none)
    |_=>none)
   |_=>none)
  |_=>none
 |_=>none
def abd{news:cR}{σ2:ah}{r:U}(m:cz au P f ch [.ptr d0 0] (λa g=>a=r/\g=σ2))(q:a3 P f){ids:cR}{s:cf}
  (h:Iz ch news r σ2 ids o.op env σ=some (s,aeo)) (d:aeo=([.fn f [],.ptr d0 0],ch)):eu ⟨P,N,ids,au⟩ o env σ s:=by
 unfold Iz at h;split at h
 .rename_i B e;obtain⟨C,args,O⟩:=B;split at h
  .rename_i t z;split at h
   .rename_i y;split at h
    .rename_i K M i;split at h
     .cases h
     .rename_i L x;generalize c:(news.all _&&_&&_&&_)=u at h;cases u with
      |false=>cases h
      |true=>
       simp only[b9,gD]at c;obtain⟨⟨⟨b,n⟩,v⟩,w⟩:=c;cases h;simp only[kJ,iV,U.fn.injEq,U.ptr.injEq,and_true]at d;obtain⟨⟨rfl,rfl⟩,rfl⟩:=d;have F:args=#[]:=by simpa using fq List.toArray y
       have H:C=.value t:=z;subst F H;refine⟨?_,by rw[gE]at b ⊢;exact λE J=>((b9 _ _).mp (b E J)).1⟩;have p:=D.RJ (G:=⟨P,N,ids,au⟩) (σ:=σ) news e (aFb i) q.h (aFq x).1.mem m b n (λQ A l=>by obtain⟨rfl,rfl⟩:=l;exact⟨v,w⟩);exact p.mono λa s ⟨A,⟨I,j⟩,k⟩=>⟨I,by rw[k,j]⟩
    .cases h
   .cases h
  .cases h
 .cases h
def IB(news:cR){f:FuncId}{d0:Nat}{ch:ah}{r:U}{σ2:ah}(c:cz au P f ch [.ptr d0 0] (λa b=>a=r/\b=σ2))(d:a3 P f):Hint P au:=
 .gs true ([.fn f [],.ptr d0 0],ch) (Iz ch news r σ2) λ_ _ _ _ _ _ _ e g=>abd c d e g
def s8(G:bI)(c:Code)(Q:Exit->av->ah->Prop):Nat->av->ah->Prop
 |0,_,_=>False
 |n+1,env,σ=>ar G c (l1 (s8 G c Q n) Q) env σ
variable {Q:Exit->av->ah->Prop}
def aFV{c:Code}{n:Nat}(h:ar G c (l1 (s8 G c Q n) Q) env σ):s8 G c Q (n+1) env σ:=h
def aGR{c:Code}(n:Nat)(h:s8 G c Q n env σ):ar G (.loop c) Q env σ:=by
 refine aFw λj d e i=>?_;refine wp_loop_rounds n ?_
 have q:∀n env σ d e,s8 G c Q n env σ->lD G j env σ d e->Code.rounds G.P c (λk m o=>∃b a,lD G j b a m o/\Q k b a) n d e:=by
  intro n;induction n with
  |zero=>intro env σ d e h _;exact h.elim
  |succ n p=>
   intro env σ d e h i;rw[rounds_succ];refine wp_mono (ar.use h j d e i) ?_;rintro k m o ⟨b,a,g,f⟩;cases k with
   |normal=>exact p _ _ _ _ f g
   |exit id=>exact⟨b,a,g,f⟩
   |goto l=>exact⟨b,a,g,f⟩
   |ret=>exact⟨b,a,g,f⟩
   |panic r=>exact⟨b,a,g,f⟩
   |outgrown=>exact⟨b,a,g,f⟩
 exact q n env σ d e h i
end
section
open Go Go.Sort Go.Lib Go.Shelf Go.RowKit
variable {au:Bool}
theorem ZT{w w':World}(f:∀b,b<w.heap.size->w'.heap[b]?=w.heap[b]?)(e:w.heap.size<=w'.heap.size)(c:w'.tape=w.tape)(a:w'.os=w.os)(d:w'.output=w.output)(h:w.drawn<=w'.drawn):
  ∃q g,w'=grow (w.drewN q) g:=by
 refine⟨w'.drawn-w.drawn,w'.heap.extract w.heap.size w'.heap.size,?_⟩;obtain⟨m,t1,d1,i,j⟩:=w';obtain⟨l,o,k,n,p⟩:=w;simp only at f e c a d h ⊢;subst c a d;simp only[grow,World.drewN];congr 1
 .grind
 .omega
variable {α:Type}
def Ct(l:List (α->Int)):SWO (ltOf (eF l)) where
 irrefl:=λa=>by simpa [ltOf]using KH l a
 trans:=λa d e c b=>by simp only[ltOf,eY]at *;exact sP l a d e c b
 ntrans:=λa d e c b=>by simp only[ltOf,iz]at *;exact KI l a d e c b
variable {P:Program}{afw:α->α->Int}{agc:α->hD}{enc:α->List U}{k:Nat}
def Cb{g:FuncId}[Inhabited α](d:∀(I:a8) (β:Nat->Value) x,bD I β (enc x) (agc x))
    (aB:∀x y,bb false P g [] [.agg (enc x),.agg (enc y)] (.int .i64 (afw x y))) (bR off size:Nat) (w:World):CmpLays P g #[] agc k afw bR off size w:=λp os m r x y=>by
  generalize sortWorldK agc k w bR off p m os=b
  have i:bE ⟨P,0,[],false⟩ (kC (fu b) (λ_=>.nilFunc) [] b) (fu b) (λ_=>.nilFunc) [] b:=
    {good:=yg,fA:=x9,fV:=b1.refl _,gm:=λ_ _ _ _=>rfl,frame:=λ_ _ _=>rfl,size:=eb _,tape:=rfl,os:=rfl,output:=rfl,drawn:=eb _,
     bY:=λe u c=>by simp[ah.get]at c,cQ:=λe t c=>by simp[ah.get]at c,keep:=λe c=>by simp at c,tab:=λf=>by cases f}
  have j:=aB x y _ b _ (λ_=>.nilFunc) [.agg (agc x).toArray,.agg (agc y).toArray] i (by
    simp only[bD,aD];exact⟨_,_,rfl,⟨_,rfl,d _ _ x⟩,_,_,rfl,⟨_,rfl,d _ _ y⟩,rfl⟩)
  refine hV j ?_;rintro f A ⟨z,rfl,v,q,s,B,⟨rfl,rfl⟩,l,a⟩;have n:=g1 l;subst n;exact⟨rfl,ZT (λo h=>a.frame o h (by simp[kC,rq,ah.ids])) a.size a.tape a.os a.output a.drawn⟩
def KL{k:Nat}(b:0<k):∀(L:List (List Value)),(∀x∈L,x.length=k)->∀t,L.flatten[t]?=(L[t / k]?).bind λx=>x[t%k]?
 |[],_,t=>by simp
 |x::r,h,t=>by
  have c:=h x (by simp);rw[kk];by_cases a:t<k
  .rw[nu (by omega),vX a,nj a];simp
  .rw[pO (by omega),KL b r (λg d=>h g (by simp[d])),c];have e:t / k=(t-k) / k+1:=by rw[Nat.div_eq_sub_div b (by omega)]
   have f:(t-k)%k=t%k:=by rw[Nat.mod_eq_sub_mod (by omega:t>=k)]
   rw[e,f];simp
theorem KY[Inhabited α](c:0<k)(f:∀x,(agc x).length=k)(d:Array α):(flatK agc k d).toList=(d.toList.map agc).flatten:=by
 apply mF;intro a;rw[KL c _ (λx h=>by obtain⟨i,_,rfl⟩:=dg.1 h;exact f i),l7,lH,lH];by_cases b:a<d.size*k
 .have e:a / k<d.size:=(Nat.div_lt_iff_lt_mul c).2 b;have g:=get_flatK agc k d a b;rw[qj (by simpa using b),qj e];rw[getElem!_pos (flatK agc k d) a (by simpa using b)]at g;rw[g,getElem!_pos d _ e];have j:a%k<(agc d[a / k]).length:=by rw[f];exact Nat.mod_lt _ c
  grind
 .have e:d.size<=a / k:=(Nat.le_div_iff_mul_le c).2 (by omega)
  simp_all
def zA(P:Program)(f g:FuncId){α:Type}[Inhabited α](agc:α->hD)(k:Nat)(afw:α->α->Int):Prop:=∀(bR d aY:Nat) (a:Array α) (b:World),HoldsK agc k b bR d a->bR<b.heap.size->a.size<4611686018427387904->
 Calls P f #[.slice (some ⟨bR,d,none⟩) a.size aY,.func (.func g) #[] #[]] b λe j=>e=.returned (.tuple #[])/\∃c h i,PermIn 0 a.size a c/\SortedIn (ltOf afw) 0 a.size c/\j=sortWorldK agc k b bR d h c i
def RK(P:Program)(f:FuncId):Prop:=∀(d:Option Addr) (aY:Nat) (b:Value) (a:World),Calls P f #[.slice d 0 aY,b] a λc e=>c=.returned (.tuple #[])/\e=a
theorem Wo[Inhabited α]{d c:Array α}(g:PermIn 0 d.size d c)(h:SortedIn (ltOf afw) 0 d.size c):c.toList.Perm d.toList/\c.toList.Pairwise λa b=>¬afw b a<0:=by
 obtain⟨l,_,m⟩:=g;refine⟨?_,?_⟩
 .have n:c.extract 0 d.size=c:=by rw[<-l];simp
  simp_all
 rw[tG];intro f e o i j;have k:e<c.size:=by simpa using i
 have:=h f e (Nat.zero_le _) j (by omega);rw[getElem!_pos c e k,getElem!_pos c f (by omega)]at this;simpa [ltOf]using this
def Cc{I:a8}{α:Type}{enc:α->List U}{agc:α->hD}(a:∀x vs,bP I (enc x) vs↔vs=agc x):∀(zs:List α) (vs:hD),bP I (zs.map enc).flatten vs↔vs=(zs.map agc).flatten
 |[],vs=>by simp[bP]
 |z::r,vs=>by
  simp only[dr,kk];rw[h8];constructor
  .rintro⟨c,e,rfl,d,b⟩;rw[(a z c).1 d,(Cc a r e).1 b]
  .rintro rfl;exact⟨_,_,rfl,(a z _).2 rfl,(Cc a r _).2 rfl⟩
theorem Cg{f g:FuncId}[Inhabited α](o:∀(I:a8) x vs,bP I (enc x) vs↔vs=agc x)(z:0<k)(L:∀x,(agc x).length=k)(aq:∀x,(enc x).length=k)
  (Y:∀a b c,afw a b<0->afw b c<0->afw a c<0) (W:zA P f g agc k afw) (ay:RK P f) {d T:Nat} {zs ys:List α} (h:kg afw zs=some ys) :
  cz au P f [(d,.slice T k (zs.map enc) 0 false)] [.own d,.fn g []] (λr V=>r=.bO []/\V=[(d,.slice T k (ys.map enc) 0 false)]):=by
 intro a5 n I K vs q i;obtain⟨D,am,aJ⟩:=WO Y h;simp only[bD]at i;obtain⟨a7,aL,rfl,i,aX,a2,rfl,v,rfl⟩:=i;simp only[aD,bD]at v;obtain⟨U,rfl,v⟩:=v;have aE:U=#[]:=by apply Array.ext';simpa using v
 subst aE;have aH:ah.get [(d,b4.slice T k (zs.map enc) 0 false)] d=some (.slice T k (zs.map enc) 0 false):=by rw[aFc,bx rfl]
 have M:=q.bY d _ aH;simp only[aD]at i;obtain⟨rfl,i⟩:=i;simp only[bl,iO]at M;rcases M with J|⟨J,B,_⟩|⟨b,aY,j,A,B,X,p,O,Z,aR,aT,aV,R,S⟩
 .rw[J]at i;simp[gU]at i
 .have aj:zs=[]:=by simpa using B
  subst aj;have az:ys=[]:=D.eq_nil;subst az;rw[J];refine hV (ay none 0 _ n) ?_;rintro y aK ⟨rfl,rfl⟩;exact⟨.tuple #[],rfl,.bO [],_,I,K,⟨rfl,rfl⟩,by simp only[aD,bD];exact⟨_,rfl,rfl⟩,q⟩
 .have ab:j.toList.take (zs.length*k)=(zs.map agc).flatten:=(Cc (o I) zs _).1 Z;have ak:j.size=aY*k:=O;have aW:zs.length*k<=j.size:=by rw[ak];exact hp k B
  have ao:(flatK agc k zs.toArray).toList=(zs.map agc).flatten:=by rw[KY z L]
  have aZ:∀e,e<zs.length*k->j[e]?=some ((flatK agc k zs.toArray)[e]!):=λe l=>by
   have aG:(flatK agc k zs.toArray)[e]?=j[e]?:=by
    rw[<-lH,<-lH,ao,<-ab,l8,bx l]
   have N:e<(flatK agc k zs.toArray).size:=by simpa using l
   rw[<-aG,getElem!_pos _ e N,qj N]
  have ae:HoldsK agc k n b 0 zs.toArray:=λe l=>by
   have l:e<zs.length*k:=by simpa using l
   constructor
   .simp only[World.cell?,p,hR]
    grind
   .simp[World.frozen?,p]
  have t:=gZ p;have aa:=W b 0 aY zs.toArray n ae t (by simpa using aJ);rw[A];refine hV aa ?_;rintro y aK ⟨rfl,w,F,H,aB,mY,rfl⟩;obtain⟨aA,an⟩:=Wo aB mY;have Q:w.toList=ys:=KG (aA.trans D.symm) am an;have E:ys.length=zs.length:=D.length_eq;have ag:w.size=zs.length:=by rw[<-E,<-Q];simp
  generalize C:flatK agc k w=m;have ax:m.toList=(ys.map agc).flatten:=by rw[<-C,KY z L,Q]
  have a4:m.size=zs.length*k:=by rw[<-C,size_flatK,ag]
  have aC:sortWorldK agc k n b 0 F w H=grow (putRow id (Go.Sort.ahead n F) b 0 m) H:=by rw[<-C];rfl
  rw[aC];have ar:(grow (putRow id (Go.Sort.ahead n F) b 0 m) H).heap[b]?=some (.cells (putCells id 0 m j) T (0,0)):=by
   simp only[grow,putRow,mapBlock,Go.Sort.ahead];rw[Array.getElem?_append_left (by simpa using t),Array.getElem?_modify,bx rfl,p];rfl
  have aw:(putCells id 0 m j).toList.take (ys.length*k)=(ys.map agc).flatten:=by
   rw[<-ax];apply mF;intro e;rw[l8];split
   .rename_i l;rw[E]at l;have aU:e<j.size:=by omega
    rw[lH,lH];simp only[putCells,Array.getElem?_mapIdx]
    grind
   .grind
  refine⟨.tuple #[],rfl,.bO [],_,I,K,⟨rfl,rfl⟩,by simp only[aD,bD];exact⟨_,rfl,rfl⟩,?_⟩;refine bE.turn (b:=b) (d:=d) q ⟨λk z t=>?_,by simp[grow,putRow,mapBlock,Go.Sort.ahead],rfl,rfl,rfl,by simp[grow,putRow,mapBlock,Go.Sort.ahead]⟩ S (λx s=>?_) (λx s h _=>?_) (b1.refl I) (λ_ _ _=>rfl) (λG a9 o=>?_) (q.oQ p) (λ_ _=>rfl) (.inr rfl) (fQ.refl K) (.inl (by rw[A];rfl)) (λaN u=>?_)
  .simp only[grow,putRow,mapBlock,Go.Sort.ahead];rw[Array.getElem?_append_left (by simpa using t),Array.getElem?_modify,bw (λy=>z y.symm)]
  .rw[aFc,aFc,bw (et s),bw (et s)]
  .rw[aFc,bw (et s)]at h;simp[ah.get]at h
  .rw[R G (by omega)]at o;cases o
  .rw[aFc,bx rfl]at u;injection u with u
   subst u;simp only[bl,iO];refine .inr (.inr ⟨b,aY,_,by rw[A,E],by omega,X,ar,by simpa [putCells]using O,?_,?_,by omega,?_,?_,S⟩)
   .exact(Cc (o I) _ _).2 aw
   .intro y aI;obtain⟨x,_,rfl⟩:=dg.1 aI;exact aq x
   .intro h;cases h
   .intro G _;exact R G (by omega)
end
end Go.Proofs.YtemmkpdjmgafoaaGreatDoor
