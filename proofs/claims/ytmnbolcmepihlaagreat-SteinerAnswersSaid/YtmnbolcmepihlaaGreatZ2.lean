/- A part of the proof; the last text says of what. No condition but those that stand in each. -/
import Derived.Test.YtmnbolcmepihlaaGreatZ1
import Derived.Lib.SliceRun
import Derived.Laws.BytesString
import Derived.Scope
import Derived.Below
import Derived.ChangeSame
import Derived.WideKeyArgs
import Derived.ProofKit
import Derived.LoopN
import Derived.Shelf.SlSortCmp.NoneTotal
namespace Go.Proofs.YtmnbolcmepihlaaGreat
section
set_option linter.all false
open Go
section
def aj{α β:Type}(o:Option α)(k:α->Option β):Option β:=match o with|none=>none|some a=>k a
def dR{β:Type}(c:Bool)(k:Option β):Option β:=bif c then k else none
def jn{σ β:Type}(k:σ->Option β)(t:(σ->Option β)->Option β):Option β:=t k
def bZ{α σ β:Type}:List α->Nat->(Int->α->(σ->Option β)->σ->Option β)->(σ->Option β)->σ->Option β
 |[],_,_,K,s=>K s
 |x::r,j,B,K,s=>B (j:Int) x (bZ r (j+1) B K) s
def gj{σ β:Type}:Nat->Int->(Int->(σ->Option β)->σ->Option β)->(Int->σ->Option β)->σ->Option β
 |0,i,_,K,s=>K i s
 |n+1,i,B,K,s=>B i (gj n (i+1) B K) s
def iter{σ β:Type}(F:(σ->Option β)->σ->Option β):Nat->σ->Option β
 |0,_=>none
 |n+1,s=>F (iter F n) s
def fuel:Nat:=1099511627776
def dn{σ β:Type}(F:(σ->Option β)->σ->Option β)(s:σ):Option β:=iter F fuel s
def an(n:Int):Int:=IntKind.wrap .i64 n
def bq{α:Type}(l:List α)(i:Int):Option α:=if 0<=i then l[i.toNat]? else none
def e3{α:Type}(l:List α)(i:Int)(x:α):Option (List α):=if 0<=i/\i<l.length then some (l.set i.toNat x)else none
def aR:Nat:=549755813888
def dP{α:Type}(l r:List α):Option (List α):=if l.length+r.length<=aR then some (l++r)else none
def h5{α:Type}(l:List α)(a b:Int):Option (List α):=if 0<=a/\a<=b/\b<=l.length then some ((l.take b.toNat).drop a.toNat)else none
def AW(s:ByteArray)(n:Int):Option UInt8:=if 0<=n then s[n.toNat]? else none
theorem JJ{s:ByteArray}{n:Int}{b:UInt8}(a:AW s n=some b):0<=n/\s[n.toNat]?=some b:=by
 unfold AW at a
 grind
variable {α β:Type}{r:β}
def aB{o:Option α}{k:α->Option β}(b:aj o k=some r):∃a,o=some a/\k a=some r:=by
 cases o with
 |none=>cases b
 |some a=>exact⟨a,rfl,b⟩
def gC{c:Bool}{k:Option β}(a:dR c k=some r):c=true/\k=some r:=by
 cases c with
 |false=>cases a
 |true=>exact⟨rfl,a⟩
theorem aV{c:Bool}{x y:Option β}(a:(bif c then x else y)=some r):(c=true/\x=some r)\/(c=false/\y=some r):=by grind
variable {σ:Type}
def dx{k:σ->Option β}{t:(σ->Option β)->Option β}(a:jn k t=some r):∃J,J=k/\t J=some r:=⟨k,rfl,a⟩
def e0{a b:α}(c:some a=some b):a=b:=by injection c
variable {j:Nat}{l:List α}
def cZ{b:Int->α->(σ->Option β)->σ->Option β}{k:σ->Option β}{s:σ}(a:bZ l j b k s=some r):
  ∃B K,B=b/\K=k/\bZ l j B K s=some r:=⟨b,k,rfl,rfl,a⟩
variable {i:Int}
def kV{n:Nat}{b:Int->(σ->Option β)->σ->Option β}{k:Int->σ->Option β}{s:σ}(a:gj n i b k s=some r):
  ∃B K,B=b/\K=k/\gj n i B K s=some r:=⟨b,k,rfl,rfl,a⟩
def fQ{f:(σ->Option β)->σ->Option β}{s:σ}(a:dn f s=some r):∃F n,F=f/\iter F n s=some r:=⟨f,_,rfl,a⟩
variable {x:α}
def hY[Inhabited α](a:bq l i=some x):(0<=i/\i<l.length)/\el l i=x:=by
 unfold bq at a;split at a
 .rename_i b;obtain⟨d,c⟩:=List.getElem?_eq_some_iff.1 a;refine⟨⟨b,by omega⟩,?_⟩;simp[el,List.getD_eq_getElem?_getD,a]
 .cases a
def cf(a:l[j]?=some x):bq l (j:Int)=some x:=by
 unfold bq;rw[if_pos (by omega)];simpa using a
variable {m:List α}
theorem Jf(a:e3 l i x=some m):(0<=i/\i<l.length)/\l.set i.toNat x=m:=by
 unfold e3 at a
 grind
theorem CV{r:List α}(a:dP l r=some m):l.length+r.length<=aR/\l++r=m:=by
 unfold dP at a
 grind
variable {a:Int}
theorem Jg{b:Int}(c:h5 l a b=some m):(0<=a/\a<=b/\b<=l.length)/\(l.take b.toNat).drop a.toNat=m:=by
 unfold h5 at c
 grind
structure fx(α:Type) where
 enc:α->List U
 sz:Nat
 hz:∀r,(enc r).length=sz
 one:∀r,(enc r).all U.one=true
 cl:∀r,ha (enc r)=true
def ag{α:Type}(e:fx α)(l:List α):List (List U):=l.map e.enc
def g9(e:fx α)(l:List α):(ag e l).length=l.length:=by simp[ag]
def uV(e:fx α)(l:List α):∀x∈ag e l,x.length=e.sz:=λx a=>by
 obtain⟨r,_,rfl⟩:=List.mem_map.1 a;exact e.hz r
def LW(e:fx α)(l:List α):(ag e l).flatten.all U.one=true:=LD e.enc e.one l
def af:fx Int:=⟨encI,1,λ_=>rfl,λ_=>rfl,λ_=>rfl⟩
def eO:fx Bool:=⟨λa=>[.bool a],1,λ_=>rfl,λ_=>rfl,λ_=>rfl⟩
def eF{α:Type}(e:fx α):fx (List α):=⟨λl=>[.aL false (ag e l)],1,λ_=>rfl,λ_=>rfl,λ_=>rfl⟩
def mP(sz:Nat)(xs:List (List U))(i:Int)(row:List U):Prop:=(∀a∈xs,a.length=sz)/\0<=i/\i<xs.length/\el xs i=row
def ix(e:fx α)(a:bq l i=some x):mP e.sz (ag e l) i (e.enc x):=by
 refine⟨uV e l,?_⟩;unfold bq at a;split at a
 .rename_i b;obtain⟨d,c⟩:=List.getElem?_eq_some_iff.1 a;exact⟨b,by rw[g9];omega,by simp[ag,el,List.getD_eq_getElem?_getD,a]⟩
 .cases a
def pe(sz bytes:Nat)(xs a c:List (List U)):Prop:=
 xs++a=c/\(∀b∈xs,b.length=sz)/\(∀b∈a,b.length=sz)/\a.flatten.all U.one=true/\(xs.length+a.length)*bytes<=140737488355328/\xs.length+a.length<=maxLen
def ap(e:fx α){bytes:Nat}(b:bytes<=256){r:List α}(c:dP l r=some m):pe e.sz bytes (ag e l) (ag e r) (ag e m):=by
 obtain⟨d,a⟩:=CV c;unfold aR at d;refine⟨by rw[<-a];simp[ag],uV e l,uV e r,LW e r,?_,?_⟩
 .rw[g9,g9];exact Nat.le_trans (Nat.mul_le_mul_left _ b) (by omega)
 .rw[g9,g9];unfold maxLen;omega
def uo(sz:Nat)(xs:List (List U))(i:Int)(off:Nat)(ca:List U)(a:List (List U)):Prop:=
 mP sz xs i (el xs i)/\a=xs.set i.toNat (ei (el xs i) off ca)
def st[Inhabited α](e:fx α){y:α}{off:Nat}{ca:List U}(a:bq l i=some x)(h:e3 l i y=some m)(g:ei (e.enc x) off ca=e.enc y):uo e.sz (ag e l) i off ca (ag e m):=by
 have j:=ix e a;obtain⟨b,f,c,d⟩:=j;refine⟨⟨b,f,c,rfl⟩,?_⟩;rw[d,g,<-(Jf h).2];simp[ag,List.map_set]
def mS(sz:Nat)(xs:List (List U))(a b:Int)(d:List (List U)):Prop:=(∀c∈xs,c.length=sz)/\(0<=a/\a<=b/\b<=xs.length)/\(xs.take b.toNat).drop a.toNat=d
def sl(e:fx α){b:Int}(d:h5 l a b=some m):mS e.sz (ag e l) a b (ag e m):=by
 obtain⟨f,c⟩:=Jg d;exact⟨uV e l,by rw[g9];exact f,by rw[<-c];simp[ag,List.map_drop,List.map_take]⟩
def bW(k:IntKind)(n:Int):U:=.int k n
def ew(b:Bool):U:=.bool b
def uh(P:Program)(E:Nat)(k:IntKind)(bs:List (U×U))(n:Int)(a:U)(b:Bool):Prop:=∃(α:Type) (l:List (Int×α)) (enc:α->U) (e:α),
 bs=bg k enc l/\a=enc ((ay l n).getD e)/\b=(ay l n).isSome/\(∀d,∃c,(zeroValue E).run P d=.ok c d/\∀f,aN f (enc e) c)
def q2(k:IntKind)(bs:List (U×U))(n:Int)(v:U)(a:List (U×U)):Prop:=∃(α:Type) (l:List (Int×α)) (enc:α->U) (x:α),bs=bg k enc l/\v=enc x/\(enc x).closed=true/\a=bg k enc (bc l n x)
def uj(k:IntKind)(bs:List (U×U))(n:Int):Prop:=∃(α:Type) (l:List (Int×α)) (enc:α->U),bs=bg k enc l/\n=l.length
variable {enc:α->U}{k:IntKind}
def lk{P:Program}{E:Nat}(l:List (Int×α))(n:Int)(z:α)(a:∀w,∃v,(zeroValue E).run P w=.ok v w/\∀I,aN I (enc z) v):uh P E k (bg k enc l) n (enc ((ay l n).getD z)) (ay l n).isSome:=⟨α,l,enc,z,rfl,rfl,rfl,a⟩
def jq(l:List (Int×α))(n:Int)(x:α)(a:(enc x).closed=true):q2 k (bg k enc l) n (enc x) (bg k enc (bc l n x)):=⟨α,l,enc,x,rfl,rfl,a,rfl⟩
def lm(l:List (Int×α)):uj k (bg k enc l) (l.length:Int):=⟨α,l,enc,rfl,rfl⟩
def yj:Nat->List (List U)->Prop
 |0,xs=>xs.length<=maxLen
 |n+1,xs=>xs.length<=maxLen/\∀b∈xs,∀c a,U.aL c a∈b->yj n a
def ic(xs:List (List U)):Prop:=∀a,yj a xs
def ic.len{xs:List (List U)}(h:ic xs):xs.length<=maxLen:=h 0
def dO{n:Int}(b : -9223372036854775808<=n)(a:n<=9223372036854775807):an n=n:=y0 b a
def cK{e:fx α}(b:l[j]?=some x)(a:ic (ag e l)):U.int .i64 (IntKind.wrap .i64 ((j:Int)+1))=.int .i64 ((j+1:Nat):Int):=by
 obtain⟨c,_⟩:=List.getElem?_eq_some_iff.1 b;have a:=a.len;rw[g9]at a;unfold maxLen at a;rw[show IntKind.wrap .i64 ((j:Int)+1)=(j:Int)+1 from y0 (by omega) (by omega)];rfl
def lg{hi:Int}(b : -9223372036854775808<=i)(c:i<hi)(a:hi<=9223372036854775807):U.int .i64 (IntKind.wrap .i64 (i+1))=.int .i64 (i+1):=by
 rw[show IntKind.wrap .i64 (i+1)=i+1 from y0 (by omega) (by omega)]
def bu(e:fx α)(l:List α):U.int .i64 ((ag e l).length:Int)=.int .i64 (l.length:Int):=by rw[g9]
def mK{α:Type}(a:α->α->Int)(x:α):List α->List α
 |[]=>[x]
 |y::r=>if a y x<0 then y::mK a x r else x::y::r
def h2{α:Type}(a:α->α->Int):List α->List α
 |[]=>[]
 |x::r=>mK a x (h2 a r)
def lV{α:Type}(b:α->α->Int):List α->Bool
 |a::c::r=>decide (b a c<0)&&lV b (c::r)
 |_=>true
def gA{α:Type}(a:α->α->Int)(l:List α):Option (List α):=bif lV a (h2 a l)&&decide (l.length<4611686018427387904)then some (h2 a l)else none
def xC{α:Type}(a:α->α->Int)(x:α):∀l:List α,(mK a x l).Perm (x::l)
 |[]=>.refl _
 |y::r=>by
  simp only[mK];split
  .exact((xC a x r).cons y).trans (.swap x y r)
  .exact .refl _
def l8{α:Type}(a:α->α->Int):∀l:List α,(h2 a l).Perm l
 |[]=>.refl _
 |x::r=>(xC a x _).trans ((l8 a r).cons x)
def Bo{α:Type}{d:α->α->Int}(f:∀a b c,d a b<0->d b c<0->d a c<0):∀{l:List α},lV d l=true->l.Pairwise λa b=>d a b<0
 |[],_=>.nil
 |[x],_=>by simp
 |a::b::r,h=>by
  simp only[lV,Bool.and_eq_true,decide_eq_true_eq]at h;have g:=Bo f h.2;rw[List.pairwise_cons];refine⟨λi e=>?_,g⟩;rcases List.mem_cons.1 e with rfl|e
  .exact h.1
  .exact f _ _ _ h.1 ((List.pairwise_cons.1 g).1 i e)
def I2{d:α->α->Int}(g:∀a b c,d a b<0->d b c<0->d a c<0)(f:gA d l=some m):m.Perm l/\(m.Pairwise λa b=>d a b<0)/\l.length<4611686018427387904:=by
 unfold gA at f;cases e:(lV d (h2 d l)&&decide (l.length<4611686018427387904))with
 |false=>rw[e]at f;cases f
 |true=>
  rw[e]at f;cases f
  simp only[Bool.and_eq_true,decide_eq_true_eq]at e;exact⟨l8 d l,Bo g e.1,e.2⟩
theorem Cq{α:Type}{f:α->α->Int}:∀{d m:List α},d.Perm m->(m.Pairwise λa b=>f a b<0)->(d.Pairwise λa b=>¬f b a<0)->d=m
 |[],m,c,_,_=>c.symm.eq_nil.symm
 |x::d,[],c,_,_=>by have:=c.eq_nil;cases this
 |x::d,y::m,c,h1,e=>by
  rw[List.pairwise_cons]at h1 e;have g:x=y:=by
   refine Classical.byContradiction λh=>?_;have i:x∈m:=by grind
   grind
  subst g;rw[Cq (List.Perm.cons_inv c) h1.2 e.2]
def c9{α:Type}:List (α->Int)->α->α->Int
 |[],_,_=>0
 |k::r,a,b=>if k a<k b then -1 else if k b<k a then 1 else c9 r a b
def iX(k:α->Int)(r:List (α->Int))(a b:α):c9 (k::r) a b<0↔k a<k b\/k a=k b/\c9 r a b<0:=by
 simp only[c9];omega
def Cb{α:Type}:∀(l:List (α->Int)) (a:α),¬c9 l a a<0
 |[],_=>by simp[c9]
 |k::r,a=>by rw[iX];intro b;rcases b with b|b;omega;exact Cb r a b.2
def mc{α:Type}:∀(l:List (α->Int)) (a b c:α),c9 l a b<0->c9 l b c<0->c9 l a c<0
 |[],_,_,_=>by simp[c9]
 |k::r,a,b,c=>by
  simp only[iX];intro e d;rcases e with e|e<;>rcases d with d|d
  .omega
  .omega
  .omega
  .exact .inr ⟨by omega,mc r a b c e.2 d.2⟩
def Cc{α:Type}:∀(l:List (α->Int)) (a b c:α),¬c9 l a b<0->¬c9 l b c<0->¬c9 l a c<0
 |[],_,_,_=>by simp[c9]
 |k::r,a,b,c=>by
  simp only[iX];intro j f d;rcases d with d|⟨d,g⟩
  .omega
  .by_cases m:k a<k b
   .omega
   by_cases n:k b<k c
   .omega
   have h:k a=k b:=by omega
   have i:k b=k c:=by omega
   exact Cc r a b c (λe=>j (.inr ⟨h,e⟩)) (λe=>f (.inr ⟨i,e⟩)) g
end
section
inductive q1 where
 |int (k:IntKind)
 |bool
 |str
 |slice (E sz bytes:Nat) (zs:c4)
 |map (K E:Nat) (k:IntKind)
 |struct (zs:c4) (c1:List (Nat×Nat)) (Yg:ja)
 |hM
structure mT where
 sz:Nat
 b9:Bool
 zs:Option (List Value)
 kd:q1
def g6(P:Program)(T:Nat):q1->Prop
 |.int k=>P.underlying T=some (.int k)
 |.bool=>P.underlying T=some .bool
 |.str=>P.underlying T=some .string
 |.slice E a bytes d=>g8 P T E a/\gO P T E a bytes/\jx P T E a d
 |.map K E k=>gi P T K E k
 |.struct d c g=>n2 P T d c/\(∀f b a,c[f]?=some (b,a)->rO P T f b)/\∀f b a e,c[f]?=some (b,a)->g[f]?=some e->pt P T f b a e
 |.hM=>True
structure vh(P:Program)(T:Nat)(i:mT):Prop where
 ty:dN P T i.sz i.b9
 B3:∀zs,i.zs=some zs->∀w,∃z,(zeroValue T).run P w=.ok z w/\z.cells=zs.toArray
 kd:g6 P T i.kd
abbrev ef:=List (Nat×mT)
def ef.get:ef->Nat->Option mT
 |[],_=>none
 |(k,v)::r,n=>bif Nat.beq k n then some v else ef.get r n
def fL(P:Program):ef->Prop
 |[]=>True
 |(k,v)::r=>vh P k v/\fL P r
def fL.get{P:Program}:∀{bo:ef} {T:Nat} {i:mT},fL P bo->bo.get T=some i->vh P T i
 |[],_,_,_,h=>by simp[ef.get]at h
 |(k,v)::r,T,i,u,h=>by
  simp only[ef.get]at h;cases D:Nat.beq k T<;>rw[D]at h
  .exact fL.get u.2 h
  .simp only[cond_true,Option.some.injEq]at h;have:k=T:=by simpa using D
   subst this h;exact u.1
structure fI(P:Program)(bo:ef):Prop where
 mix:P.follows .mixedOrders=true
 tys:fL P bo
structure bB(P:Program)(f:FuncId):Prop where
 h:∀(args:eN) (w:World),(callFunc f args).run P w=.ok (.enter f args) w
theorem dG{α:Type}{c:Bool}{x:Option α}{y:α}(a:(bif c then x else none)=some y):c=true/\x=some y:=by grind
def z2:b1->Prop
 |.slice _ _ xs _ _=>∀c∈xs,jt c=true
 |.map _ _ b=>∀a∈b,a.1.fu=true/\a.2.fu=true
 |_=>False
def nX:W->Prop
 |[]=>True
 |p::r=>z2 p.2/\nX r
def vi(a:U):Prop:=∀(I:a2) (β:Nat->Value) b,az I β a b->∃e d c,b=.slice (some e) d c
theorem Kx{f:Bool}{xs:List (List U)}(c:xs≠[]):vi (.aL f xs):=λI β h a=>by
 simp only[az,aN]at a;obtain⟨d,g,rfl,_,_,_,b|⟨e,o,rfl,_⟩⟩:=a
 .exact absurd b c
 .grind
def Ky:vi .gq:=λI β d a=>by
 simp only[az,aN]at a;obtain⟨b,c,rfl,_⟩:=a;exact⟨_,_,_,rfl⟩
abbrev bL:=List U×W
inductive bP where
 |y (R:cg) (bt:U)
 |v (d:Nat) (SC:b1) (bt:U)
 |e (M news:cg) (bt:U) (Sv:W)
def c7(G:bQ)(o:Oper)(env:ah)(σ:W):bP->Prop
 |.y c b=>Yields G o env.ev σ [] c b
 |.v a d b=>G.ids.contains a=false/\Yields G o env.ev ((a,d)::σ) [a] [a] b
 |.e M news b e=>eL G o env.ev σ M news (λf g=>f=b/\g=e)/\news.all (λa=>!G.ids.contains a)=true
inductive Hint(P:Program):Type where
 |rU
 |al (d:Nat)
 |to (h:Hint P) (a b:U) (e:a=b)
 |ix (sz:Nat) (xs:List (List U)) (i:Int) (row:List U) (Tq:mP sz xs i row)
 |lo (d sz:Nat) (xs:List (List U)) (i:Int) (off:Nat) (row:List U) (Tq:mP sz xs i row)
 |so (d sz:Nat) (xs:List (List U)) (i:Int) (off:Nat) (ca:List U) (zs:List (List U)) (Tq:uo sz xs i off ca zs) (k:Nat) (hk:(k:Int)<=i)
 |rf (f:FuncId) (abd cr:List U) (r:U) (Tq:bY P f [] (cr++abd) r) (aa:bB P f)
 |ro (VI:Nat) (f:FuncId) (σs:W) (cr:List U) (r:U) (Tq:bY P f σs cr r) (aa:bB P f)
 |le (b2:cg) (f:FuncId) (cr:List U) (r:U) (Tq:bY P f [] cr r) (aa:bB P f)
 |iy (news:cg) (f:FuncId) (cb:W) (cr:List U) (r:U) (σ2:W) (Tq:cI P f cb cr (λa Sv=>a=r/\Sv=σ2)) (aa:bB P f)
 |dl (b2 news:cg) (f:FuncId) (cr:List U) (r:U) (σ2:W) (Tq:cI P f [] cr (λa Sv=>a=r/\Sv=σ2)) (aa:bB P f) (aeA:nX σ2)
 |gs (pX:Bool) (ex:bL) (f:cg->Op->ah->W->Option (bP×bL)) (Tq:∀(o:Oper) (N:Nat) (ids:cg) (env:ah) (σ:W) (s:bP) (SC:bL),f ids o.op env σ=some (s,SC)->SC=ex->c7 ⟨P,N,ids⟩ o env σ s)
 |ap (d2 sz bytes:Nat) (xs S6 zs:List (List U)) (Tq:pe sz bytes xs S6 zs)
 |sl (sz:Nat) (xs:List (List U)) (a b:Int) (zs:List (List U)) (Tq:mS sz xs a b zs)
 |qr (n:Int) (Tq:n≠0)
 |sh (n:Int) (Tq:0<=n)
 |is (s:ByteArray) (n:Int) (b:UInt8) (Tq:0<=n/\s[n.toNat]?=some b)
 |lk (E:Nat) (k:IntKind) (bs:List (U×U)) (n:Int) (a:U) (b:Bool) (Tq:uh P E k bs n a b)
 |jq (k:IntKind) (bs:List (U×U)) (n:Int) (v:U) (XJ:List (U×U)) (Tq:q2 k bs n v XJ)
 |lm (k:IntKind) (bs:List (U×U)) (n:Int) (Tq:uj k bs n)
 |td (neg:Bool) (T:Nat) (a b:U) (r:Bool) (Tq:∀(x y:Operand) w,(do eqGuard (bif neg then .neq else .eql) T x y (valOf a) (valOf b);binOp (bif neg then .neq else .eql) T (valOf a) (valOf b):Sem Value).run P w=.ok (.bool r) w)
 |tc (neg:Bool) (a:U) (Tq:vi a)
 |s3 (sz:Nat) (xs:List (List U)) (a b:Int) (zs:List (List U)) (Tq:mS sz xs a b zs)
 |pu (T aM:Nat) (a r:U) (Tq:∀(o:Oper) (N:Nat) (ids:cg) (ev:Operand->U) (σ:W) (x:Operand),o.op=.convert T aM x->ev x=a->Yields ⟨P,N,ids⟩ o ev σ [] [] r)
 |pb (op:BinOp) (T:Nat) (a b r:U) (Tq:∀(o:Oper) (N:Nat) (ids:cg) (ev:Operand->U) (σ:W) (x y:Operand) (aM:Nat),o.op=.binOp op T x y aM->ev x=a->ev y=b->Yields ⟨P,N,ids⟩ o ev σ [] [] r)
def Hint.exp{P:Program}:Hint P->bL
 |.rU|.al _=>([],[])
 |.to h a _ _=>(a::h.exp.1,h.exp.2)
 |.ix _ xs i _ _=>([.aL false xs,.int .i64 i],[])
 |.lo d sz xs i off _ _=>([.aL false xs,.ptr d (i.toNat*sz+off)],[])
 |.so d sz xs i off O _ _ _ _=>([.aL false xs,.ptr d (i.toNat*sz+off),.agg O],[])
 |.rf f F cr _ _ _=>(.fn f F::cr,[])
 |.ro _ f σs cr _ _ _=>(.fn f []::cr,σs)
 |.le _ f cr _ _ _=>(.fn f []::cr,[])
 |.iy _ f Q cr _ _ _ _=>(.fn f []::cr,Q)
 |.dl _ _ f cr _ _ _ _ _=>(.fn f []::cr,[])
 |.gs _ ex _ _=>ex
 |.ap _ _ _ xs D _ _=>([.aL false xs,.aL false D],[])
 |.sl _ xs a b _ _=>([.aL false xs,.int .i64 a,.int .i64 b],[])
 |.qr n _|.sh n _=>([.int .i64 n],[])
 |.is s n _ _=>([.str s,.int .i64 n],[])
 |.lk _ _ u n _ _ _=>([.int .i64 n],[(0,.map 0 0 u)])
 |.jq _ u n v _ _=>([.int .i64 n,v],[(0,.map 0 0 u)])
 |.lm _ u _ _=>([],[(0,.map 0 0 u)])
 |.td _ _ a b _ _=>([a,b],[])
 |.tc _ a _=>([a],[])
 |.s3 _ xs a b _ _=>([.aL false xs,.int .i64 a,.int .i64 b,.int .i64 b],[])
 |.pu _ _ a _ _=>([a],[])
 |.pb _ _ a b _ _=>([a,b],[])
mutual
def k1:U->U
 |.aL true xs=>.aL false xs
 |.bC=>.aL false []
 |.agg cs=>.agg (yR cs)
 |a=>a
def yR:List U->List U
 |[]=>[]
 |x::r=>k1 x::yR r
end
mutual
def BA{σ:W}:∀a:U,fq σ a (k1 a)
 |.aL true xs=>.full xs
 |.bC=>.nil false
 |.agg cs=>.agg (Ht cs)
 |.aL false _|.dg|.undef|.int _ _|.bool _|.str _|.dF _|.ia|.gq|.own _|.ptr _ _|.cc _|.cW _ _|.bO _|.fn _ _|.dr _ _|.b8 _|.arr _=>.refl _
def Ht{σ:W}:∀l:List U,gL σ l (yR l)
 |[]=>.nil
 |x::r=>.cons (BA x) (Ht r)
end
variable {G:bQ}{o:Oper}{σ:W}
def Yields.off{ev:Operand->U}{cw R:cg}{bt:U}(h:Yields G o (λx=>k1 (ev x)) σ cw R bt):Yields G o ev σ cw R bt:=
 λO cx I β w F Q u X hop=>h O cx I β w F Q u X λx D=>(BA (ev x)).rep u _ (hop x D)
def eL.off{ev:Operand->U}{M news:cg}{Φ:U->W->Prop}(h:eL G o (λx=>k1 (ev x)) σ M news Φ):eL G o ev σ M news Φ:=
 λcx I β w F u hop=>h cx I β w F u λx D=>(BA (ev x)).rep u _ (hop x D)
def rP:List (Nat×U)->List (Nat×U)
 |[]=>[]
 |p::r=>(p.1,k1 p.2)::rP r
def yS{ev:Operand->U}:∀l:List (Nat×Operand),rP (l.map λp=>(p.1,ev p.2))=l.map λp=>(p.1,k1 (ev p.2))
 |[]=>rfl
 |p::r=>by simp only[List.map_cons,rP,yS r]
mutual
def fG(b:cg)(σ:W):U->Option U
 |.own d=>bif b.contains d then some (.own d)else match σ.get d with
  |some (.slice _ _ xs _ true)=>some (.aL false xs)
  |_=>none
 |.cc d=>bif b.contains d then some (.cc d)else match σ.get d with
  |some (.gM _ _ c)=>some (.b8 c)
  |_=>some (.cc d)
 |.bC=>some (.aL false [])
 |.gq=>some (.aL false [])
 |.aL true xs=>some (.aL false xs)
 |.agg cs=>match k2 b σ cs with|none=>none|some l=>some (.agg l)
 |.bO cs=>match k2 b σ cs with|none=>none|some l=>some (.bO l)
 |.fn f cs=>match k2 b σ cs with|none=>none|some l=>some (.fn f l)
 |a=>some a
def k2(a:cg)(σ:W):List U->Option (List U)
 |[]=>some []
 |x::r=>match fG a σ x with
  |none=>none
  |some b=>match k2 a σ r with
   |none=>none
   |some l=>some (b::l)
end
mutual
def kB{i:cg}{σ:W}:∀{a b:U},fG i σ a=some b->fq σ a b
 |.own d,b,h=>by
  simp only[fG]at h;cases e:i.contains d with
  |true=>rw[e]at h;simp only[cond_true,Option.some.injEq]at h;subst h;exact .refl _
  |false=>
   rw[e]at h;simp only[cond_false]at h;split at h
   .rename_i g;simp only[Option.some.injEq]at h;subst h;exact .own g
   .cases h
 |.cc d,b,h=>by
  simp only[fG]at h;cases e:i.contains d with
  |true=>rw[e]at h;simp only[cond_true,Option.some.injEq]at h;subst h;exact .refl _
  |false=>
   rw[e]at h;simp only[cond_false]at h;split at h
   .rename_i g;simp only[Option.some.injEq]at h;subst h;exact .gM g
   .cases h;exact .refl _
 |.b8 _,b,h=>by simp only[fG,Option.some.injEq]at h;subst h;exact .refl _
 |.arr _,b,h=>by simp only[fG,Option.some.injEq]at h;subst h;exact .refl _
 |.bC,b,h=>by simp only[fG,Option.some.injEq]at h;subst h;exact .nil false
 |.gq,b,h=>by simp only[fG,Option.some.injEq]at h;subst h;exact .gq
 |.aL true xs,b,h=>by simp only[fG,Option.some.injEq]at h;subst h;exact .full xs
 |.agg cs,b,h=>by
  simp only[fG]at h;split at h
  .cases h
  .rename_i j c;simp only[Option.some.injEq]at h;subst h;exact .agg (oP c)
 |.bO cs,b,h=>by
  simp only[fG]at h;split at h
  .cases h
  .rename_i j c;simp only[Option.some.injEq]at h;subst h;exact .bO (oP c)
 |.fn f cs,b,h=>by
  simp only[fG]at h;split at h
  .cases h
  .rename_i j c;simp only[Option.some.injEq]at h;subst h;exact .fn (oP c)
 |.aL false _,b,h|.dg,b,h|.undef,b,h|.int _ _,b,h|.bool _,b,h|.str _,b,h|.dF _,b,h|.ia,b,h|.ptr _ _,b,h|.cW _ _,b,h|.dr _ _,b,h=>by
  simp only[fG,Option.some.injEq]at h;subst h;exact .refl _
def oP{e:cg}{σ:W}:∀{a b:List U},k2 e σ a=some b->gL σ a b
 |[],b,h=>by simp only[k2,Option.some.injEq]at h;subst h;exact .nil
 |x::r,b,h=>by
  simp only[k2]at h;split at h
  .cases h
  .rename_i a d;split at h
   .cases h
   .rename_i f c;simp only[Option.some.injEq]at h;subst h
    exact .cons (kB d) (oP c)
end
def W.at(σ:W):cg->Option W
 |[]=>some []
 |d::r=>match σ.get d with
  |none=>none
  |some o=>match W.at σ r with
   |none=>none
   |some l=>some ((d,o)::l)
def avg{σ:W}:∀{b:cg} {l:W},σ.at b=some l->lf σ l/\l.ids=b
 |[],l,h=>by simp only[W.at,Option.some.injEq]at h;subst h;exact⟨trivial,rfl⟩
 |d::r,l,h=>by
  simp only[W.at]at h;split at h
  .cases h
  .rename_i o c;split at h
   .cases h
   .rename_i g f;simp only[Option.some.injEq]at h;subst h
    obtain⟨e,a⟩:=avg f;exact⟨⟨c,e⟩,by simp only[W.ids,List.map_cons]at a ⊢;rw[a]⟩
def kJ(f:U->Option U):List U->Option (List U)
 |[]=>some []
 |x::r=>match f x with
  |none=>none
  |some a=>match kJ f r with
   |none=>none
   |some l=>some (a::l)
def kK:Nat->W->U->Option U
 |0,_,_=>none
 |n+1,σ,a=>match a with
  |.own d=>(match σ.get d with|some (.slice _ _ xs _ _)=>some (.aL false xs)|_=>none)
  |.ptr d p=>(match σ.get d with
   |some (.cells _ cs)=>(match kJ (kK n σ) (cs.drop p)with|none=>none|some l=>some (.dF l))
   |_=>none)
  |.bC=>some (.aL false [])
  |.aL true xs=>some (.aL false xs)
  |.agg cs=>(match kJ (kK n σ) cs with|none=>none|some l=>some (.agg l))
  |.bO cs=>(match kJ (kK n σ) cs with|none=>none|some l=>some (.bO l))
  |.fn f cs=>(match kJ (kK n σ) cs with|none=>none|some l=>some (.fn f l))
  |.cc d=>(match σ.get d with|some (.map _ _ b)=>some (.b8 b)|some (.gM _ _ b)=>some (.b8 b)|some (.er _ _ _ _ b)=>some (.b8 b)|_=>none)
  |.dr _ _=>none
  |.gq=>some (.aL false [])
  |a=>some a
def oT{f:U->Option U}{I J:a2}{β:Nat->Value}(e:∀a b,f a=some b->∀v,az I β a v->aN J b v):∀{l m:List U},kJ f l=some m->∀vs,bx I β l vs->bX J m vs
 |[],m,h,vs,c=>by simp only[kJ,Option.some.injEq]at h;subst h;exact c
 |x::r,m,h,vs,c=>by
  simp only[kJ]at h;split at h
  .cases h
  .rename_i a k;split at h
   .cases h
   .rename_i l j;simp only[Option.some.injEq]at h;subst h
    simp only[bx]at c;obtain⟨g,d,rfl,n,i⟩:=c;exact⟨g,d,rfl,e x a k g n,oT e j d i⟩
theorem yT{G:bQ}{cx:c2}{I:a2}{β:Nat->Value}{σ:W}{w:World}(j:bG G cx I β σ w):∀(n:Nat) (a b:U),kK n σ a=some b->∀v,az I β a v->aN (eu w) b v
 |0,a,b,h,_,_=>by cases h
 |n+1,a,b,h,v,c=>by
  have bA:bM I (eu w):=j.zH;have E:=yT j n;cases a with
  |own d=>
   simp only[kK]at h;split at h
   .rename_i V ai L k ag i;cases h;simp only[az]at c;obtain⟨rfl,R⟩:=c;have e:=j.b5 d _ i;simp only[bb]at e;simp only[aN];rcases e with g|⟨g,rfl,_⟩|⟨b,aR,arr,z,m,u,S,aa,H,ab,_⟩
    .rw[g]at R;simp[fA]at R
    .grind
    .refine⟨_,aR,z,m,u,by simp,.inr ⟨b,0,rfl,?_⟩⟩;refine xx L 0 _ (kA bA _ _ H) λZ v F=>?_;rw[Nat.zero_add];rw[List.getElem?_take]at F;split at F
     .simp only[eu,World.cell?,S]
      grind
     .cases F
   .cases h
  |ptr d p=>
   simp only[kK]at h;split at h
   .rename_i V A i;split at h
    .cases h
    .rename_i K o;cases h;simp only[az]at c;obtain⟨X,T,rfl⟩:=c;obtain⟨arr,z,m,u,_⟩:=bG.box j i T;simp only[aN];refine⟨X,p,rfl,?_⟩;have:=oT (J:=eu w) E o _ (qw p _ _ u);refine tr K p _ this λZ v F=>?_;simp only[eu,World.cell?,m]
     grind
   .cases h
  |bC=>cases h;simp only[az,aN]at c ⊢;exact⟨none,0,c,by simp,by simp[maxLen],by simp,by simp⟩
  |aL f L=>
   have B:aN (eu w) (.aL f L) v:=hD bA _ _ (by simpa only[az]using c);cases f with
   |false=>cases h;exact B
   |true=>
    cases h;simp only[aN]at B ⊢;obtain⟨a,O,M,N,D,_,x⟩:=B;exact⟨a,O,M,N,D,by simp,x⟩
  |agg A=>
   simp only[kK]at h;split at h
   .cases h
   .rename_i K o;cases h
    simp only[az]at c;obtain⟨C,rfl,c⟩:=c;simp only[aN];exact⟨C,rfl,oT E o _ c⟩
  |bO A=>
   simp only[kK]at h;split at h
   .cases h
   .rename_i K o;cases h
    simp only[az]at c;obtain⟨C,rfl,c⟩:=c;simp only[aN];exact⟨C,rfl,oT E o _ c⟩
  |fn f A=>
   simp only[kK]at h;split at h
   .cases h
   .rename_i K o;cases h
    simp only[az]at c;obtain⟨C,rfl,c⟩:=c;simp only[aN];exact⟨C,rfl,oT E o _ c⟩
  |cc d=>
   have own:∀{r:Nat} {l:dK} {t:Nat} {q:List (U×U)},β d=.map (some r)->w.heap[r]?=some (.map l t)->c3 I q l.toList->fM l t->az I β (.cc d) v->aN (eu w) (.b8 q) v:=by
    intro r l t q B M N D x;simp only[az]at x;obtain⟨rfl,_⟩:=x;simp only[aN];exact⟨r,l,t,B,by simp only[eu,M],mg bA _ _ N,D⟩
   have y:hd (β d)=true:=by simp only[az]at c;obtain⟨rfl,g⟩:=c;exact g
   simp only[kK]at h;split at h
   .rename_i Q P q i;cases h;have e:=j.b5 d _ i;simp only[bb]at e;rcases e with g|⟨r,l,t,z,m,u,_,_,H⟩
    .rw[g]at y;simp[hd]at y
    .grind
   .rename_i Q P q i;cases h;have e:=j.b5 d _ i;simp only[bb]at e;rcases e with g|⟨r,l,t,z,m,u,_,H⟩
    .rw[g]at y;simp[hd]at y
    .obtain⟨ae,af,D,x⟩:=j.eD r _ m;obtain⟨rfl,rfl⟩:=qD x
     grind
   .rename_i l t Q P q i;cases h;have e:=j.b5 d _ i;simp only[bb]at e;rcases e with g|⟨r,z,m,u,_,_,H⟩
    .rw[g]at y;simp[hd]at y
    .grind
   .cases h
  |b8 q=>cases h;exact hD bA _ _ (by simpa only[az]using c)
  |arr L=>cases h;exact hD bA _ _ (by simpa only[az]using c)
  |dr k d=>cases h
  |gq=>
   cases h;simp only[az,aN]at c ⊢;obtain⟨a,O,c,Y⟩:=c;exact⟨some a,O,c,by simp,Y,by simp,by simp⟩
  |cW f A=>cases h;exact hD bA _ _ (by simpa only[az]using c)
  |dg=>cases h;simp[aN]
  |undef=>cases h;exact hD bA _ _ (by simpa only[az]using c)
  |int k n=>cases h;exact hD bA _ _ (by simpa only[az]using c)
  |bool b=>cases h;exact hD bA _ _ (by simpa only[az]using c)
  |str s=>cases h;exact hD bA _ _ (by simpa only[az]using c)
  |dF A=>cases h;exact hD bA _ _ (by simpa only[az]using c)
  |ia=>cases h;exact hD bA _ _ (by simpa only[az]using c)
def pz(n:Nat)(σ:W)(a:U):Option U:=match kK n σ a with
 |some (.fn f l)=>some (.cW f l)
 |x=>x
variable {I:a2}{β:Nat->Value}
def DQ{cx:c2}{w:World}(d:bG G cx I β σ w)(n:Nat)(a b:U)(c:pz n σ a=some b)(v:Value)(e:az I β a v):aN (eu w) b v:=by
 unfold pz at c;split at c
 .rename_i f h g;cases c;have:=yT d n a _ g v e;simpa only[aN]using this
 .exact yT d n a _ c v e
def bX.Ar:∀{l:List U} {vs:c4},bX I l vs->bx I β l vs:=λh=>bX.rep β _ _ h
variable {Vj:Operand}{args:Array Operand}{cr ps:List U}{env:ah}{f:FuncId}{k:Array TypeId}{r:U}{σs:W}
def axa{aR:List U}(n:Nat)(e:o.op=.call ⟨.value Vj,args,k⟩)(u:env.ev Vj=.fn f aR)
    (L:∀(args:eN) (w:World),(callFunc f args).run G.P w=.ok (.enter f args) w) (a1:bY G.P f [] cr r) (x:env.iS args.toList=some ps) (P:kJ (pz n σs) (ps++aR)=some cr) (E:lf σ σs)
    (O:r.fu=true):Yields G o env.ev σ [] σs.ids r:=by
  intro h R I β w t y g _ m;have d:=m Vj (by simp[e,Op.operands,Call.operands]);rw[u]at d;simp only[az]at d;obtain⟨ab,d,F⟩:=d;rw[tJ e d L]
  have D:∀a o,σs.get a=some o->h.get a=some o:=λa o b=>by
    obtain⟨p,i,j,z⟩:=k0 σs a o b;rw[y a (by rw[<-j];exact List.mem_map.2 ⟨p,i,rfl⟩),<-j,<-z];exact E.mem p i
  have N:=g.sub D;have l:=kr _ _ _ _ (oS env.ev t args.toList λX s=>m X (by simp only[e,Op.operands,Call.operands];simp;right;simpa using s)) F;rw[avn x]at l;have M:=oT (J:=eu w) (DQ N n) P _ l
  have A:bG ⟨G.P,0,[]⟩ (h0 (eu w) β [] w) (eu w) β [] w:=
    {good:=qz,eD:=qn,fK:=bM.refl _,fB:=λ_ _ _ _=>rfl,frame:=λ_ _ _=>rfl,size:=Nat.le_refl _,tape:=rfl,os:=rfl,output:=rfl,drawn:=Nat.le_refl _,
     b5:=λa o b=>by simp[W.get]at b,cA:=λa Z b=>by simp[W.get]at b,keep:=λa b=>by simp at b}
  refine Calls.mono (a1 _ w (eu w) β _ A M.Ar) ?_;rintro aa V ⟨q,S,T,af,Y,ae,⟨K,B⟩,C,c⟩;subst K B;have H:bG G R I β h V:=g.stay (λQ v=>c.frame Q v (by simp[h0,mj,W.ids])) c.size c.tape c.os c.output c.drawn;exact⟨q,S,I,β,az.fu T q O C,H,bM.refl I,λ_ _=>rfl⟩
mutual
def U.jA:U->Bool
 |.int _ _=>true
 |.bool _=>true
 |.str _=>true
 |.undef=>true
 |.own _=>true
 |.cc _=>true
 |.bO cs=>rk cs
 |.agg cs=>rk cs
 |_=>false
def rk:List U->Bool
 |[]=>true
 |x::r=>x.jA&&rk r
end
mutual
def az.jA{I F:a2}{β:Nat->Value}:∀(a:U) (v:Value),a.jA=true->az I β a v->az F β a v
 |.int _ _,v,_,h=>by simpa only[az,aN]using h
 |.bool _,v,_,h=>by simpa only[az,aN]using h
 |.str _,v,_,h=>by simpa only[az,aN]using h
 |.undef,v,_,h=>by simpa only[az,aN]using h
 |.own d,v,_,h=>by simpa only[az]using h
 |.cc d,v,_,h=>by simpa only[az]using h
 |.bO cs,v,Y,h=>by
  simp only[az,U.jA]at h Y ⊢;obtain⟨vs,D,u⟩:=h;exact⟨vs,D,bx.jA cs _ Y u⟩
 |.agg cs,v,Y,h=>by
  simp only[az,U.jA]at h Y ⊢;obtain⟨vs,D,u⟩:=h;exact⟨vs,D,bx.jA cs _ Y u⟩
 |.dg,_,Y,_|.aL _ _,_,Y,_|.dF _,_,Y,_|.fn _ _,_,Y,_|.bC,_,Y,_|.ia,_,Y,_|.ptr _ _,_,Y,_|.cW _ _,_,Y,_|.gq,_,Y,_|.dr _ _,_,Y,_=>by simp[U.jA]at Y
def bx.jA{I F:a2}{β:Nat->Value}:∀(a:List U) (v:c4),rk a=true->bx I β a v->bx F β a v
 |[],v,_,h=>h
 |x::r,v,Y,h=>by
  simp only[bx,rk,Bool.and_eq_true]at h Y ⊢;obtain⟨au,u,Q,D,O⟩:=h;exact⟨au,u,Q,az.jA x au Y.1 D,bx.jA r u Y.2 O⟩
end
def nX.get:∀{σ:W} {d:Nat} {o:b1},nX σ->σ.get d=some o->z2 o
 |[],_,_,_,h=>by simp[W.get]at h
 |(x,v)::r,d,o,D,h=>by
  obtain⟨p,O,_,Q⟩:=k0 ((x,v)::r) d o h;have:∀(σ:W),nX σ->∀p∈σ,z2 p.2:=by
   intro σ;induction σ with
   |nil=>intro _ p u;simp at u
   |cons q r F=>
    intro D p u;rcases List.mem_cons.1 u with rfl|u
    .exact D.1
    .exact F D.2 p u
  rw[<-Q];exact this _ D p O
def Kz{k:IntKind}{b:IntKind}(l:List (Int×Int)):∀p∈l.map (λ(q:Int×Int)=>(U.int k q.1,U.int b q.2)),p.1.fu=true/\p.2.fu=true:=λp a=>by
 obtain⟨c,_,rfl⟩:=List.mem_map.1 a;exact⟨rfl,rfl⟩
def HD:∀{a b:List U},jt a=true->jt b=true->jt (a++b)=true
 |[],_,_,h=>h
 |x::r,b,c,d=>by
  simp only[List.cons_append,jt,Bool.and_eq_true]at c ⊢;exact⟨c.1,HD c.2 d⟩
def Hu:∀{xs:List (List U)},(∀e∈xs,jt e=true)->jt xs.flatten=true
 |[],_=>rfl
 |x::r,h=>by
  rw[List.flatten_cons];exact HD (h x (by simp)) (Hu λe a=>h e (by simp[a]))
mutual
def aN.fu{I F:a2}:∀(a:U) (v:Value),a.fu=true->aN I a v->aN F a v
 |.int _ _,v,_,h=>by simpa only[aN]using h
 |.bool _,v,_,h=>by simpa only[aN]using h
 |.str _,v,_,h=>by simpa only[aN]using h
 |.undef,v,_,h=>by simpa only[aN]using h
 |.bO cs,v,Y,h=>by
  simp only[aN,U.fu]at h Y ⊢;obtain⟨vs,D,u⟩:=h;exact⟨vs,D,bX.fu cs _ Y u⟩
 |.agg cs,v,Y,h=>by
  simp only[aN,U.fu]at h Y ⊢;obtain⟨vs,D,u⟩:=h;exact⟨vs,D,bX.fu cs _ Y u⟩
 |.dg,_,Y,_|.aL _ _,_,Y,_|.dF _,_,Y,_|.fn _ _,_,Y,_|.bC,_,Y,_|.ia,_,Y,_|.own _,_,Y,_|.ptr _ _,_,Y,_|.cc _,_,Y,_|.cW _ _,_,Y,_|.gq,_,Y,_|.dr _ _,_,Y,_=>by simp[U.fu]at Y
def bX.fu{I F:a2}:∀(a:List U) (v:c4),jt a=true->bX I a v->bX F a v
 |[],v,_,h=>h
 |x::r,v,Y,h=>by
  simp only[bX,jt,Bool.and_eq_true]at h Y ⊢;obtain⟨au,u,Q,D,O⟩:=h;exact⟨au,u,Q,aN.fu x au Y.1 D,bX.fu r u Y.2 O⟩
end
def c3.fu{I O:a2}:∀(l:List (U×U)) (es:iw),(∀p∈l,p.1.fu=true/\p.2.fu=true)->c3 I l es->c3 O l es
 |[],es,_,h=>h
 |(k,v)::r,es,Y,h=>by
  simp only[c3]at h ⊢;obtain⟨e,u,aa,D,Q,F⟩:=h;exact⟨e,u,aa,aN.fu k _ (Y (k,v) (by simp)).1 D,aN.fu v _ (Y (k,v) (by simp)).2 Q,c3.fu r u (λp X=>Y p (by simp[X])) F⟩
def B5:∀σ:W,W.minus [] σ=σ
 |[]=>rfl
 |(d,o)::r=>by simp only[W.minus,List.contains_nil,cond_false,B5 r]
theorem axv{aR:List U}{σ2:W}(n:Nat)(news:cg)(t:o.op=.call ⟨.value Vj,args,k⟩)(O:env.ev Vj=.fn f aR)
    (an:∀(args:eN) (w:World),(callFunc f args).run G.P w=.ok (.enter f args) w) (a1:cI G.P f [] cr (λa s=>a=r/\s=σ2)) (P:env.iS args.toList=some ps) (aB:kJ (pz n σs) (ps++aR)=some cr) (ag:lf σ σs)
    (ao:news.all (λd=>!G.ids.contains d&&(σ.get d).isNone)=true) (aa:σ.clean news.contains=true) (aA:r.jA=true) (ab:r.refs (λd=>!news.contains d)=false) (q:σ2.clean (λd=>!news.contains d)=true) (ak:nX σ2) :
    eL G o env.ev σ news news (λa s=>a=r/\s=σ2++σ):=by
  intro aV I β w M l B;have m:=B Vj (by simp[t,Op.operands,Call.operands]);rw[O]at m;simp only[az]at m;obtain⟨aY,m,ai⟩:=m;rw[tJ t m an]
  have ar:=l.sub (σ2:=σs) λd o e=>by
    obtain⟨aE,Q,V,Y⟩:=k0 σs d o e;rw[<-V,<-Y];exact ag.mem aE Q
  have y:=kr _ _ _ _ (oS env.ev M args.toList λaF H=>B aF (by simp only[t,Op.operands,Call.operands];simp;right;simpa using H)) ai;rw[avn P]at y;have aq:=oT (J:=eu w) (DQ ar n) aB _ y
  have Z:bG ⟨G.P,0,[]⟩ (h0 (eu w) β [] w) (eu w) β [] w:=
    {good:=qz,eD:=qn,fK:=bM.refl _,fB:=λ_ _ _ _=>rfl,frame:=λ_ _ _=>rfl,size:=Nat.le_refl _,tape:=rfl,os:=rfl,output:=rfl,drawn:=Nat.le_refl _,
     b5:=λd o e=>by simp[W.get]at e,cA:=λd aU e=>by simp[W.get]at e,keep:=λd e=>by simp at e}
  refine Calls.mono (a1 _ w (eu w) β _ Z aq.Ar) ?_;rintro aW D ⟨j,aC,u,F,N,aG,⟨am,kT⟩,af,i⟩;subst am kT;have z:∀b,b<w.heap.size->D.heap[b]?=w.heap[b]?:=λb c=>i.frame b c (by simp[h0,mj])
  have x:∀b,Place (h0 (eu w) β [] w) b->w.heap.size<=b:=λb c=>by
    rcases c with c|c
    · exact c
    · simp[h0,mj]at c
  have aD:bG ⟨G.P,0,[]⟩ (h0 I β [] w) (λb o=>if b<w.heap.size then I b o else N b o) aG F D:=
    {good:=λb o j h=>by
        by_cases c:b<w.heap.size
        · simp only[c,if_true]at h
          have h1:=l.good b o j h;rw[World.cell?_of_block (w:=w) (z b c)];exact h1
        · simp only[c,if_false]at h
          exact i.good b o j h
     eD:=λb j h=>by
        by_cases c:b<w.heap.size
        · simp only[c,if_true]at h
          obtain⟨es,clock,h1,q⟩:=l.eD b j h
          grind
        · simp only[c,if_false]at h
          exact i.eD b j h
     fK:=λb o j h=>by
        have R:b<w.heap.size:=l.LV h;simp only[R,if_true];exact h
     fB:=λb c _ o=>by
        have c:b<w.heap.size:=c;simp only[c,if_true];rfl
     frame:=λb c _=>z b c
     size:=i.size,tape:=i.tape,os:=i.os,output:=i.output,drawn:=i.drawn
     b5:=λd o e=>by
        have p:=i.b5 d o e;have g:=ak.get e;cases o with
        |slice aI aX xs aM aS=>
          simp only[bb]at p ⊢;rcases p with C|C|⟨b,aR,arr,Sy,Sz,SO,SP,Tk,TA,Uk,Up,UQ,UM,T⟩
          · grind
          · grind
          · have c:=x b T
            have ax:¬b<w.heap.size:=by omega
            refine .inr (.inr ⟨b,aR,arr,Sy,Sz,SO,SP,Tk,bX.fu _ _ (Hu g) TA,Uk,Up,?_,?_,.inl c⟩)
            all_goals grind
        |cells _ _=>exact absurd g id
        |map K E aT=>
          simp only[bb]at p ⊢;rcases p with C|⟨r,es,clock,Sy,Sz,SO,SP,Tk,TA⟩
          · grind
          · have c:=x r Tk
            have ax:¬r<w.heap.size:=by omega
            refine .inr ⟨r,es,clock,Sy,Sz,c3.fu _ _ g SO,λo=>?_,.inl c,TA⟩
            grind
        |gM _ _ _=>exact absurd g id
        |er _ _ _ _ _=>exact absurd g id
        |iter _ _ _ _=>exact absurd g id
        |hdr _ _=>exact absurd g id
        |bp _=>exact absurd g id
        |cF _ _ _ _=>exact absurd g id
        |fk _ _ _ _ _ _=>exact absurd g id
        |eR _ _ _=>exact absurd g id
        |vec _ _=>exact absurd g id
        |gD _ _ _ _=>exact absurd g id
        |dB _ _ _ _ _ _=>exact absurd g id
     cA:=i.cA,keep:=λd e=>by simp at e}
  have aw:∀d∈news,d∉G.ids/\σ.get d=none:=λd e=>by
    have:=List.all_eq_true.1 ao d e;simpa using this
  have A:σ.minus (W.ids [])=σ:=B5 σ;obtain⟨v,S,X⟩:=l.after (cb:=[]) (by simp) aD news aw (by rw[A];exact aa) (by simpa [W.ids]using q);rw[A]at v;refine⟨j,aC,u,_,_,_,⟨rfl,rfl⟩,X u j (by simpa [W.ids]using ab) (az.jA u j aA af),v,S,λd e=>by simp[e],λd e=>?_⟩;rw[avv];cases L:F.get d with
  |some ae=>
    have:=(au8 q d ae L).1;have:news.contains d=true:=by rw[<-Bool.not_eq_false'];exact this
    exact absurd (List.contains_iff_mem.1 this) e
  |none=>rfl
def vj(op:BinOp)(k:IntKind)(m n:Int):Option U:=match op with
 |.add=>some (.int k (k.wrap (m+n)))
 |.sub=>some (.int k (k.wrap (m-n)))
 |.mul=>some (.int k (k.wrap (m*n)))
 |.lss=>some (.bool (decide (m<n)))
 |.leq=>some (.bool (decide (m<=n)))
 |.gtr=>some (.bool (decide (n<m)))
 |.geq=>some (.bool (decide (n<=m)))
 |.eql=>some (.bool (decide (m=n)))
 |.neq=>some (.bool (!decide (m=n)))
 |.and=>some (.int k (fR .and k m n))
 |.or=>some (.int k (fR .or k m n))
 |.xor=>some (.int k (fR .xor k m n))
 |.andNot=>some (.int k (fR .andNot k m n))
 |_=>none
def FW(bo:ef)(env:ah)(σ:W)(c:Call):Option (cg×U):=match c.callee with
 |.builtin b=>(match b with
  |.len=>(match c.args.toList with
   |[x]=>(match c.argTypes.toList with
    |[e]=>(match bo.get e with
     |some ⟨_,_,_,.slice _ _ _ _⟩=>(match env.bS x with
      |some (.aL _ a)=>some ([],.int .i64 (a.length:Int))
      |some .bC=>some ([],.int .i64 0)
      |some (.own d)=>(match σ.get d with|some (.slice _ _ a _ _)=>some ([d],.int .i64 (a.length:Int))|_=>none)
      |_=>none)
     |some ⟨_,_,_,.str⟩=>(match env.bS x with|some (.str f)=>some ([],.int .i64 (f.size:Int))|_=>none)
     |_=>none)
    |_=>none)
   |_=>none)
  |.min=>(match c.args.toList with
   |[x,y]=>(match env.bS x with
    |some (.int k m)=>(match env.bS y with|some (.int _ n)=>some ([],.int k (if n<m then n else m))|_=>none)
    |_=>none)
   |_=>none)
  |.max=>(match c.args.toList with
   |[x,y]=>(match env.bS x with
    |some (.int k m)=>(match env.bS y with|some (.int _ n)=>some ([],.int k (if n>m then n else m))|_=>none)
    |_=>none)
   |_=>none)
  |_=>none)
 |_=>none
def AF(bo:ef)(env:ah)(σ:W):Op->Option (cg×U)
 |.move x|.assign x=>match env.bS x with|none=>none|some a=>some ([],a)
 |.pick c x y=>match env.bS c with
  |some (.bool true)=>(match env.bS x with|none=>none|some a=>some ([],a))
  |some (.bool false)=>(match env.bS y with|none=>none|some a=>some ([],a))
  |_=>none
 |.fieldAddr e x f=>match bo.get e with
  |some ⟨_,_,_,.struct _ g _⟩=>(match g[f]? with
   |none=>none
   |some (off,_)=>match env.bS x with
    |some (.ptr d p)=>some ([],.ptr d (p+off))
    |some (.dF cs)=>(match spine (cs.drop off)with|none=>none|some l=>some ([],.dF l))
    |_=>none)
  |_=>none
 |.field e x f=>match bo.get e with
  |some ⟨_,_,_,.struct _ g o⟩=>(match g[f]? with
   |none=>none
   |some (off,n)=>match o[f]? with
    |none=>none
    |some r=>match env.bS x with
     |some (.agg cs)=>bif Nat.ble (off+n) cs.length then(match iE r n (cs.drop off)with|none=>none|some a=>some ([],a))else none
     |_=>none)
  |_=>none
 |.load e x=>match bo.get e with
  |none=>none
  |some i=>match env.bS x with
   |some (.ptr d p)=>(match σ.get d with
    |some (.cells _ cs)=>bif (i.b9||Nat.blt 0 i.sz)&&Nat.ble (p+i.sz) cs.length then(match iE i.b9 i.sz (cs.drop p)with|none=>none|some a=>some ([d],a))else none
    |_=>none)
   |some (.dF cs)=>bif (i.b9||Nat.blt 0 i.sz)&&Nat.ble i.sz cs.length then(match iE i.b9 i.sz cs with|none=>none|some a=>some ([],a))else none
   |_=>none
 |.binOp op e x y _=>match env.bS x with
  |some (.int k m)=>(match env.bS y with
   |some (.int h n)=>bif decide (k=h)then(match vj op k m n with|none=>none|some a=>some ([],a))else none
   |_=>none)
  |some (.bool a)=>(match bo.get e with
   |some ⟨_,_,_,.bool⟩=>(match env.bS y with
    |some (.bool b)=>(match op with
     |.eql=>some ([],.bool (a==b))
     |.neq=>some ([],.bool (!(a==b)))
     |_=>none)
    |_=>none)
   |_=>none)
  |_=>none
 |.unOp op _ x=>match op with
  |.not=>(match env.bS x with|some (.bool b)=>some ([],.bool (!b))|_=>none)
  |.neg=>(match env.bS x with|some (.int k n)=>some ([],.int k (k.wrap (0-n)))|_=>none)
  |_=>none
 |.convert e q x=>match bo.get e with
  |some ⟨_,_,_,.int _⟩=>(match bo.get q with
   |some ⟨_,_,_,.int h⟩=>(match env.bS x with|some (.int _ n)=>some ([],.int h (h.wrap n))|_=>none)
   |_=>none)
  |_=>none
 |.extract x s=>match env.bS x with
  |some (.bO t)=>(match t[s]? with|none=>none|some a=>some ([],a))
  |_=>none
 |.nilCheck x=>match env.bS x with
  |some (.ptr d p)=>some ([],.ptr d p)
  |some (.dF cs)=>some ([],.dF cs)
  |_=>none
 |.build e parts=>match bo.get e with
  |some ⟨_,_,_,.struct u g _⟩=>(match env.k9 parts.toList with
   |none=>none
   |some ps=>match o5 g (iO u) ps with|none=>none|some cs=>some ([],.agg cs))
  |_=>none
 |.buildSlice e len parts=>match bo.get e with
  |some ⟨_,_,_,.slice _ j _ _⟩=>bif Nat.beq parts.size len&&(Nat.ble (len*j) 65536&&Nat.ble len 65536)then(match env.k9 parts.toList with
   |none=>none
   |some ps=>match nx j 0 (rP ps)with
    |none=>none
    |some xs=>bif ha xs.flatten then some ([],.aL true xs)else none)else none
  |_=>none
 |.makeFunc fn first aR=>match fn with
  |.func f=>(match first.toList with
   |[]=>(match env.iS aR.toList with|none=>none|some l=>some ([],.fn f l))
   |_=>none)
  |_=>none
 |.call c=>FW bo env σ c
 |_=>none
end
section
section
variable {P:Program}{N:Nat}{ids:cg}{bo:ef}{o:Oper}{env:ah}{σ:W}
variable {G:bQ}{T:TypeId}{k:IntKind}{x:Operand}
def aw2{ev:Operand->U}{n:Int}(b:o.op=.unOp .neg T x)(c:ev x=.int k n):Yields G o ev σ [] [] (.int k (k.wrap (0-n))):=
 .pure λ_ _ e h g f _ _ d=>by
  have a:=d x (by simp[b,Op.operands]);rw[c]at a;have a:=fW a
  exact⟨.int k (k.wrap (0-n)),by simp only[execOp,b,a,Op.unary,Op.intArith];rfl,by simp[az,aN]⟩
variable {aM:TypeId}{m:Int}
def aw8{ev:Operand->U}{y:Operand}{n:Int}(d:o.op=.binOp .quo T x y aM)(a:ev x=.int k m)(b:ev y=.int k n)(c:n≠0):Yields G o ev σ [] [] (.int k (k.wrap (m.tdiv n))):=
 br.int d a b (by decide) (λe=>by simp[Op.intDiv,c];rfl) (λ_ _=>by simp only[az,aN])
def q0(xs:List (List U)):xs.map id=xs:=List.map_id xs
theorem aww{o:Oper}{ev:Operand->U}{σ:W}{T E sz len d:Nat}{parts:Array (Nat×Operand)}{Z:c4}{xs:List (List U)}(k:o.op=.buildSlice T len parts)(r:jx G.P T E sz Z)(v:parts.size=len)(ai:len*sz<=65536/\len<=65536)
  (B:lM sz 0 (parts.toList.map λp=>(p.1,ev p.2))=some xs) (M:ha xs.flatten=true) (hi:G.ids.contains d=false):Yields G o ev ((d,.slice E sz xs 0 false)::σ) [d] [d] (.own d):=by
 intro ab ak I β b h D n V X;have S:∀p∈parts.toList,az I β (ev p.2) (h p.2):=λp C=>X p.2 (by simp only[k,Op.operands];simpa using ⟨p.1,by simpa using C⟩);obtain⟨m,J,af⟩:=r.zero b
 let a:eN:=(Array.range (len*sz)).map ((if len*sz=0 then #[]else m.cells)[·%(if len*sz=0 then #[]else m.cells:eN).size]!)
 have O:a.size=len*sz:=by simp[a]
 obtain⟨l,t,F,ae,ag,u,P,N⟩:=s0 (I:=I) (β:=β) sz (parts.toList.map λp=>(p.1,ev p.2)) (parts.toList.map λp=>(p.1,h p.2)) 0 a xs
  ⟨by simp,λY p am c g=>by
   simp only[List.getElem?_map]at c g;cases e:parts.toList[Y]? with
   |none=>rw[e]at c;cases c
   |some y=>
    rw[e]at c g;simp only[Option.map_some,Option.some.injEq]at c g;subst c g;exact⟨rfl,S y (List.mem_of_getElem? e)⟩⟩ B (by simp[O,v])
 have z:l.toList=t:=by simp_all
 have gK:xs.length=len:=by rw[N];simp[v]
 have H:(execOp h o).run G.P b=.ok (.value (.slice (some ⟨b.heap.size,0,none⟩) len len)) (b.alloc (.cells l E)):=by
  have Q:¬(len*sz>2 ^ 24):=by have:(2:Nat) ^ 24=16777216:=by decide
                              omega
  have f:Instr.fill (λs=>some (s*sz,sz)) a (parts.map λ(s,x)=>(s,h x)).toList=some l:=by simpa using F
  simp only[execOp,k,Instr.buildSlice,Sem.run_bind,run_underlying r.ee,r.size,Result.andThen_ok,Q,if_false];by_cases j:len*sz=0
  .have q:a=(Array.range (len*sz)).map ((#[]:eN)[·%(#[]:eN).size]!):=by simp only[a,j,if_true]
   rw[q]at f;simp only[j,if_true,Sem.run_bind,Sem.run_pure,Result.andThen_ok]at f ⊢;simp only[f];simp[newRow]
  .have q:a=(Array.range (len*sz)).map (m.cells[·%m.cells.size]!):=by simp only[a,j,if_false]
   rw[q]at f;simp only[j,if_false,Sem.run_bind,J,Sem.run_pure,Result.andThen_ok];simp only[f];simp[newRow]
 rw[H];have K:=V d (by simp);have w:=P;have L:=sZ xs w;have A:t.length=xs.length*sz:=by rw[ko _ _ u,L]
 refine⟨I,et β d (.slice (some ⟨b.heap.size,0,none⟩) len len),by simp only[az];exact⟨(eB _ _ _).symm,rfl⟩,?_,bM.refl I,λx e=>ff β _ (λR=>e (by simp[R]))⟩;refine n.real (by simpa using hi) K rfl λaa i=>?_;rw[D d (by simp),auU,if_pos rfl]at i;injection i with i
 subst i;simp only[bb,eB];refine .inr (.inr ⟨b.heap.size,len,l,by rw[gK],by omega,by simp only[maxLen];omega,heap_alloc_new b _,?_,?_,w,by omega,(λk=>by cases k),λo _=>n.fJ (Nat.le_refl _) o,.inl n.size⟩)
 .rw[<-Array.length_toList,z,A,gK]
 .rw[z,List.take_of_length_le (by rw[A];exact Nat.le_refl _)];exact bx.closed _ _ M u
def awN{ev:Operand->U}{e:Operand}{args:Array Operand}{k:Array TypeId}{f:FuncId}{aR n:List U}{σs:W}{r:U}(h:o.op=.call ⟨.value e,args,k⟩)(z:ev e=.cW f aR)
  (M:∀(args:eN) (w:World),(callFunc f args).run G.P w=.ok (.enter f args) w) (J:∀p∈σs,σ.get p.1=some p.2) (R:gL σs (args.toList.map ev) n)
  (a1:bY G.P f [] (n++aR) r) (Q:r.closed=true):Yields G o ev σ [] σs.ids r:=by
 intro j S u c w y A d _ q;have b:=q e (by simp[h,Op.operands,Call.operands]);rw[z]at b;simp only[az,aN]at b;obtain⟨ab,b,K⟩:=b;rw[tJ h b M]
 have I:∀a o,σs.get a=some o->j.get a=some o:=λa o g=>by
  obtain⟨p,l,m,C⟩:=k0 σs a o g;rw[A a (by rw[<-m];exact List.mem_map.2 ⟨p,l,rfl⟩),<-m,<-C];exact J p l
 have O:=d.sub I;have H:=oS ev y args.toList λx t=>q x (by simp only[h,Op.operands,Call.operands];simp;right;simpa using t);have N:=kr _ _ _ _ (R.rep O _ H) (bX.rep c _ _ K);have D:=d.oc (P:=G.P) (cb:=[]) (by simp);refine Calls.mono (a1 _ w u c _ D N) ?_;rintro aa Y ⟨s,V,X,af,i,ae,⟨L,E⟩,F,B⟩;subst L E;obtain⟨T,v,Z⟩:=d.after (cb:=[]) (by simp) B [] (by simp) (avD _) rfl;refine⟨s,V,i,c,?_,?_,v,λ_ _=>rfl⟩
 .exact aN.rep c _ _ (az.closed X s Q F)
 .refine({T with}:bG G S i c ([]++j.minus (W.ids [])) Y).sub λa o g=>?_;rw[avv,avc];simpa [W.get,W.ids]using g
variable {Ua:IntKind}{ts:Array TypeId}
def aw0{ev:Operand->U}{y:Operand}{n:Int}(c:o.op=.call ⟨.builtin .min,#[x,y],ts⟩)(e:ev x=.int k m)(f:ev y=.int Ua n):Yields G o ev σ [] [] (.int k (if n<m then n else m)):=
 .pure λ_ _ g j i h _ _ d=>by
  have b:=d x (by simp[c,Op.operands,Call.operands]);rw[e]at b;have b:=fW b
  have a:=d y (by simp[c,Op.operands,Call.operands]);rw[f]at a;have a:=fW a
  exact⟨.int k (if n<m then n else m),by simp[execOp,c,resolve,invoke,builtin,Builtin.min_,Builtin.min2,b,a],by simp[az,aN]⟩
def awZ{ev:Operand->U}{y:Operand}{n:Int}(c:o.op=.call ⟨.builtin .max,#[x,y],ts⟩)(e:ev x=.int k m)(f:ev y=.int Ua n):Yields G o ev σ [] [] (.int k (if n>m then n else m)):=
 .pure λ_ _ g j i h _ _ d=>by
  have b:=d x (by simp[c,Op.operands,Call.operands]);rw[e]at b;have b:=fW b
  have a:=d y (by simp[c,Op.operands,Call.operands]);rw[f]at a;have a:=fW a
  exact⟨.int k (if n>m then n else m),by simp[execOp,c,resolve,invoke,builtin,Builtin.max_,Builtin.max2,b,a],by simp[az,aN]⟩
def LF{op:BinOp}{y:Operand}{n:Int}{a:U}(d:o.op=.binOp op T x y aM)(b:env.ev x=.int k m)(c:env.ev y=.int k n)(e:vj op k m n=some a):Yields ⟨P,N,ids⟩ o env.ev σ [] [] a:=by
 cases op<;>simp only[vj,Option.some.injEq]at e<;>first|cases e|skip
 all_goals (try subst e)
 .exact awt d b c
 .exact axc d b c
 .exact aw1 d b c
 .exact br.and d b c
 .exact br.or d b c
 .exact br.xor d b c
 .exact br.andNot d b c
 .exact br.eql d b c
 .exact br.neq d b c
 .exact br.lss d b c
 .exact br.leq d b c
 .exact br.gtr d b c
 .exact br.geq d b c
theorem LX(n:fI P bo){R:cg}{bt:U}(a:AF bo env σ o.op=some (R,bt)):Yields ⟨P,N,ids⟩ o env.ev σ [] R bt:=by
 cases d:o.op<;>rw[d]at a<;>simp only[AF]at a
 case move x=>
  cases b:env.bS x with
  |none=>rw[b]at a;cases a
  |some q=>rw[b]at a;cases a;rw[<-auS b];exact br.move d
 case assign x=>
  cases b:env.bS x with
  |none=>rw[b]at a;cases a
  |some q=>rw[b]at a;cases a;rw[<-auS b];exact br.assign d
 case pick c x y=>
  split at a
  .rename_i u;cases b:env.bS x with
   |none=>rw[b]at a;cases a
   |some q=>rw[b]at a;cases a;rw[<-auS b];exact awT d (auS u) rfl
  .rename_i u;cases b:env.bS y with
   |none=>rw[b]at a;cases a
   |some q=>rw[b]at a;cases a;rw[<-auS b];exact awU d (auS u) rfl
  .cases a
 case fieldAddr T x H=>
  split at a
  .rename_i ae Y X ai Z M g;split at a
   .cases a
   .rename_i w r l;have e:=(fL.get n.tys g).kd;simp only[g6]at e;split at a
    .rename_i G z b;cases a;exact awI d (auS b) (e.2.1 _ _ _ l)
    .rename_i i b;cases h:spine (i.drop w)with
     |none=>rw[h]at a;cases a
     |some aa=>rw[h]at a;cases a;rw[<-ml h];exact awJ d (auS b) (e.2.1 _ _ _ l)
    .cases a
  .cases a
 case field T x H=>
  split at a
  .rename_i ae Y X ai Z M g;split at a
   .cases a
   .rename_i w r l;split at a
    .cases a
    .rename_i V W;have e:=(fL.get n.tys g).kd;simp only[g6]at e;split at a
     .rename_i i b;cases f:Nat.ble (w+r) i.length with
      |false=>rw[f]at a;cases a
      |true=>
       rw[f]at a;simp only[cond_true]at a;cases h:iE V r (i.drop w)with
       |none=>rw[h]at a;cases a
       |some q=>rw[h]at a;cases a;exact bf.field d (auS b) (e.2.2 _ _ _ _ l W) f h
     .cases a
  .cases a
 case load T x=>
  split at a
  .cases a
  .rename_i p g;have e:=(fL.get n.tys g).ty;split at a
   .rename_i G z b;split at a
    .rename_i aM i F;cases f:((p.b9||Nat.blt 0 p.sz)&&Nat.ble (z+p.sz) i.length)with
     |false=>rw[f]at a;cases a
     |true=>
      rw[f]at a;simp only[cond_true]at a;simp only[Bool.and_eq_true]at f;cases h:iE p.b9 p.sz (i.drop z)with
      |none=>rw[h]at a;cases a
      |some q=>rw[h]at a;cases a;exact awp d (auS b) e F f.1 f.2 h
    .cases a
   .rename_i i b;cases f:((p.b9||Nat.blt 0 p.sz)&&Nat.ble p.sz i.length)with
    |false=>rw[f]at a;cases a
    |true=>
     rw[f]at a;simp only[cond_true]at a;simp only[Bool.and_eq_true]at f;cases h:iE p.b9 p.sz i with
     |none=>rw[h]at a;cases a
     |some q=>rw[h]at a;cases a;exact awr d (auS b) e f.1 f.2 h
   .cases a
 case binOp op T x y aM=>
  split at a
  .rename_i k m b;split at a
   .rename_i Ua r t;cases E:decide (k=Ua)with
    |false=>rw[E]at a;cases a
    |true=>
     rw[E]at a;simp only[cond_true]at a;have:=of_decide_eq_true E;subst this;cases f:vj op k m r with
     |none=>rw[f]at a;cases a
     |some q=>rw[f]at a;cases a;exact LF d (auS b) (auS t) f
   .cases a
  .rename_i q b;split at a
   .rename_i g;have e:=(fL.get n.tys g).kd;simp only[g6]at e;split at a
    .rename_i K t;split at a
     .cases a;exact awW d (auS b) (auS t) e
     .cases a;exact aw7 d (auS b) (auS t) e
     .cases a
    .cases a
   .cases a
  .cases a
 case unOp op T x=>
  split at a
  .split at a
   .rename_i K b;cases a;exact br.not d (auS b)
   .cases a
  .split at a
   .rename_i k r b;cases a;exact aw2 d (auS b)
   .cases a
  .cases a
 case convert T aM x=>
  split at a
  .rename_i g;split at a
   .rename_i Ua S;split at a
    .rename_i k r b;cases a
     have L:=(fL.get n.tys g).kd;have J:=(fL.get n.tys S).kd;simp only[g6]at L J;exact br.convert d (auS b) ⟨_,L⟩ J
    .cases a
   .cases a
  .cases a
 case extract x j=>
  split at a
  .rename_i ag b;cases A:ag[j]? with
   |none=>rw[A]at a;cases a
   |some q=>rw[A]at a;cases a;exact br.extract d (auS b) A
  .cases a
 case nilCheck x=>
  split at a
  .rename_i G z b;cases a;exact awx d (auS b)
  .rename_i i b;cases a;exact awy d (auS b)
  .cases a
 case build T parts=>
  split at a
  .rename_i g;have e:=(fL.get n.tys g).kd;simp only[g6]at e;split at a
   .cases a
   .rename_i ab B;split at a
    .cases a
    .rename_i i l;cases a;exact bf.build d e.1 B l
  .cases a
 case buildSlice T len parts=>
  split at a
  .rename_i g;have e:=(fL.get n.tys g).kd;simp only[g6]at e
   replace a:=dG a;obtain⟨f,a⟩:=a
   rw[Bool.and_eq_true]at f;split at a
   .cases a
   .rename_i ab B;split at a
    .cases a
    .rename_i I l;cases u:ha I.flatten with
     |false=>rw[u]at a;cases a
     |true=>rw[u]at a;cases a;exact(br.buildSlice d e.2.2 (by simpa using f.1) (by simpa using f.2) (by rw[<-yS,avx B];exact w5 _ l) u).off
  .cases a
 case makeFunc fn first aR=>
  split at a
  .rename_i H;split at a
   .rename_i l;split at a
    .cases a
    .rename_i aa O;cases a
     have:first=#[]:=by simpa using l
     subst this;exact bf.makeFunc d O
   .cases a
  .cases a
 case call c=>
  obtain⟨ak,args,af⟩:=c;simp only[FW]at a;split at a
  .rename_i K;split at a
   .split at a
    .rename_i x v;have:args=#[x]:=Array.toList_inj.1 (by simpa using v);subst this;split at a
     .rename_i T Q;have:af=#[T]:=Array.toList_inj.1 (by simpa using Q);subst this;split at a
      .rename_i g;have e:=(fL.get n.tys g).kd;simp only[g6]at e;split at a
       .rename_i H I b;cases a;exact aw3 (rs:=I) (enc:=id) d rfl (by rw[q0];exact auS b) e.1.ee
       .rename_i b;cases a;exact aw5 d rfl (auS b) e.1.ee
       .rename_i G b;split at a
        .rename_i F;cases a;exact aws (enc:=id) d rfl (auS b) (by rw[q0];exact F) e.1.ee
        .grind
       .cases a
      .rename_i g;have e:=(fL.get n.tys g).kd;simp only[g6]at e;split at a
       .rename_i s b;cases a;exact aw6 d rfl (auS b) e
       .cases a
      .cases a
     .cases a
    .cases a
   .split at a
    .rename_i D C v;have:args=#[D,C]:=Array.toList_inj.1 (by simpa using v);subst this;split at a
     .rename_i k m b;split at a
      .rename_i Ua r t;cases a;exact aw0 d (auS b) (auS t)
      .cases a
     .cases a
    .cases a
   .split at a
    .rename_i D C v;have:args=#[D,C]:=Array.toList_inj.1 (by simpa using v);subst this;split at a
     .rename_i k m b;split at a
      .rename_i Ua r t;cases a;exact awZ d (auS b) (auS t)
      .cases a
     .cases a
    .cases a
   .cases a
  .cases a
 all_goals cases a
end
end
section
def mF(env:ah)(c:Call):Option (FuncId×List U):=match c.callee with
 |.value a=>(match env.bS a with
  |some (.fn f aR)=>(match env.iS c.args.toList with|none=>none|some b=>some (f,b++aR))
  |_=>none)
 |_=>none
def qK{env:ah}{c:Call}{f:FuncId}{d:List U}(a:mF env c=some (f,d)):∃b args k aR ps,c=⟨.value b,args,k⟩/\env.ev b=.fn f aR/\env.iS args.toList=some ps/\d=ps++aR:=by
 obtain⟨i,args,k⟩:=c;simp only[mF]at a;split at a
 .rename_i b;split at a
  .rename_i h aR e;split at a
   .cases a
   .rename_i ps g;cases a
    exact⟨b,args,k,aR,ps,rfl,auS e,g,rfl⟩
  .cases a
 .cases a
def z6(env:ah)(c:Call):Option (FuncId×List U×List U):=match c.callee with
 |.value a=>(match env.bS a with
  |some (.cW f aR)=>(match env.iS c.args.toList with|none=>none|some b=>some (f,b,aR))
  |_=>none)
 |_=>none
def KA{env:ah}{c:Call}{f:FuncId}{d e:List U}(a:z6 env c=some (f,d,e)):∃b args k,c=⟨.value b,args,k⟩/\env.ev b=.cW f e/\env.iS args.toList=some d:=by
 obtain⟨j,args,k⟩:=c;simp only[z6]at a;split at a
 .rename_i b;split at a
  .rename_i i aR g;split at a
   .cases a
   .rename_i l h;cases a
    exact⟨b,args,k,rfl,auS g,h⟩
  .cases a
 .cases a
def As:U->Option U
 |.fn f l=>bif ha l then some (.cW f l)else none
 |a=>some a
def LG{σ:W}{a b c:U}(g:fq σ a b)(d:As b=some c):fq σ a c:=by
 cases b<;>simp only[As,Option.some.injEq]at d<;>first|(subst d;exact g)|skip
 rename_i f h;cases e:ha h with
 |false=>rw[e]at d;cases d
 |true=>rw[e]at d;cases d;exact .cW g e
def pE(σ:W):Nat->List U->Option (List U)
 |_,[]=>some []
 |m,x::r=>match(bif Nat.beq (m%2) 1 then some x else match fG [] σ x with|none=>none|some a=>As a)with
  |none=>none
  |some a=>match pE σ (m / 2) r with
   |none=>none
   |some l=>some (a::l)
def yU{σ:W}:∀{m:Nat} {a b:List U},pE σ m a=some b->gL σ a b
 |m,[],b,h=>by simp only[pE,Option.some.injEq]at h;subst h;exact .nil
 |m,x::r,b,h=>by
  simp only[pE]at h;split at h
  .cases h
  .rename_i a c;split at h
   .cases h
   .rename_i i e;simp only[Option.some.injEq]at h;subst h
    refine .cons ?_ (yU e);cases d:Nat.beq (m%2) 1 with
    |true=>rw[d]at c;cases c;exact .refl _
    |false=>
     rw[d]at c;simp only[cond_false]at c;split at c
     .cases c
     .rename_i g f;exact LG (kB f) c
def ll(env:ah)(d:Int):Option Operand->fe
 |none=>some d
 |some x=>match env.bS x with|some (.int _ n)=>some n|_=>none
def E2{env:ah}{x:Option Operand}{n:Int}(a:ll env 0 x=some n):o4 env.ev x/\iR env.ev x=n:=by
 cases x with
 |none=>simp only[ll,Option.some.injEq]at a;exact⟨trivial,a⟩
 |some x=>
  simp only[ll]at a;split at a
  .rename_i k c b;cases a;exact⟨⟨k,_,auS b⟩,by simp only[iR,auS b]⟩
  .cases a
def y1{env:ah}{l:Nat}{x:Option Operand}{n:Int}(a:ll env (l:Int) x=some n):o4 env.ev x/\kM env.ev l x=n:=by
 cases x with
 |none=>simp only[ll,Option.some.injEq]at a;exact⟨trivial,a⟩
 |some x=>
  simp only[ll]at a;split at a
  .rename_i k c b;cases a;exact⟨⟨k,_,auS b⟩,by simp only[kM,auS b]⟩
  .cases a
def Bl(env:ah)(σ:W)(bo:ef):Op->Option bP
 |.store c x y=>match bo.get c with
  |none=>none
  |some i=>match env.bS x with
   |some (.ptr d p)=>(match env.bS y with
    |none=>none
    |some a=>match σ.get d with
     |some (.cells e cs)=>(match kF a with
      |none=>none
      |some b=>bif a.flat&&Nat.beq b.length i.sz&&Nat.ble (p+i.sz) cs.length then(match spine (ei cs p b)with
       |none=>none
       |some f=>some (.e [d] [] .undef (σ.set d (.cells e f))))else none)
     |_=>none)
   |_=>none
 |_=>none
def mY(bo:ef)(ids:cg)(env:ah)(d:Nat):Op->Option bP
 |.alloc b=>match bo.get b with
  |some ⟨_,_,some zs,_⟩=>(match spine (iO zs)with|none=>none|some cs=>bif !ids.contains d then some (.v d (.cells b cs) (.ptr d 0))else none)
  |_=>none
 |.box b x=>match env.bS x with
  |none=>none
  |some a=>match kF a with
   |none=>none
   |some cs=>bif a.flat&&!a.refs (Nat.beq d)&&!ids.contains d then some (.v d (.cells b cs) (.ptr d 0))else none
 |.buildSlice b len parts=>match bo.get b with
  |some ⟨_,_,_,.slice E c _ _⟩=>bif Nat.beq parts.size len&&(Nat.ble (len*c) 65536&&Nat.ble len 65536)&&!ids.contains d then(match env.k9 parts.toList with
   |none=>none
   |some e=>match nx c 0 (rP e)with
    |none=>none
    |some xs=>bif ha xs.flatten then some (.v d (.slice E c xs 0 false) (.own d))else none)else none
  |_=>none
 |.makeMap b none=>match bo.get b with
  |some ⟨_,_,_,.map K E _⟩=>bif !ids.contains d then some (.v d (.map K E []) (.cc d))else none
  |_=>none
 |_=>none
def vR(bo:ef)(env:ah)(σ:W)(sz:Nat)(row:List U):Op->Option (bP×bL)
 |.indexAddr b x y=>match bo.get b with
  |some ⟨_,_,_,.slice _ a _ _⟩=>(match env.bS y with
   |some (.int _ i)=>(match env.bS x with
    |some (.aL _ xs)=>(match spine row with
     |none=>none
     |some r=>bif Nat.beq a sz then some (.y [] (.dF r),([.aL false xs,.int .i64 i],[]))else none)
    |some (.own d)=>(match σ.get d with
     |some (.slice _ c xs _ _)=>bif Nat.beq a sz&&Nat.beq c sz then some (.y [d] (.ptr d (i.toNat*sz)),([.aL false xs,.int .i64 i],[]))else none
     |_=>none)
    |_=>none)
   |_=>none)
  |_=>none
 |_=>none
def wj(bo:ef)(env:ah)(σ:W)(d sz off:Nat)(row:List U):Op->Option (bP×bL)
 |.load c x=>match bo.get c with
  |none=>none
  |some i=>match env.bS x with
   |some (.ptr b p)=>(match σ.get d with
    |some (.slice _ e xs _ _)=>bif Nat.beq b d&&Nat.beq e sz&&(i.b9||Nat.blt 0 i.sz)&&Nat.ble (off+i.sz) sz then(match iE i.b9 i.sz (row.drop off)with
     |none=>none
     |some a=>some (.y [d] a,([.aL false xs,.ptr b p],[])))else none
    |_=>none)
   |_=>none
 |_=>none
def w9(bo:ef)(env:ah)(σ:W)(d sz off k:Nat)(zs:List (List U)):Op->Option (bP×bL)
 |.store g x y=>match bo.get g with
  |none=>none
  |some i=>match env.bS x with
   |some (.ptr f p)=>(match env.bS y with
    |none=>none
    |some a=>match kF (k1 a)with
     |none=>none
     |some b=>match σ.get d with
      |some (.slice h e xs c _)=>bif Nat.beq f d&&Nat.beq e sz&&Nat.beq c k&&(k1 a).flat&&ha b&&Nat.beq b.length i.sz&&Nat.ble (off+i.sz) sz then
        some (.e [d] [] .undef (σ.set d (.slice h e zs c false)),([.aL false xs,.ptr f p,.agg b],[]))else none
      |_=>none)
   |_=>none
 |_=>none
mutual
def U.owns:U->cg
 |.own d=>[d]
 |.agg cs=>pF cs
 |.bO cs=>pF cs
 |.fn _ cs=>pF cs
 |_=>[]
def pF:List U->cg
 |[]=>[]
 |x::r=>x.owns++pF r
end
def wV(env:ah)(σ:W)(r:U):Op->Option (bP×bL)
 |.call c=>match z6 env c with
  |none=>none
  |some (f,a,d)=>match σ.at (pF a)with
   |none=>none
   |some b=>match pE b 0 a with
    |none=>none
    |some cr=>bif r.closed then some (.y b.ids r,(.fn f d::cr,[]))else none
 |_=>none
def wZ(env:ah)(d:Nat)(σ σs:W)(r:U):Op->Option (bP×bL)
 |.call c=>match mF env c with
  |none=>none
  |some (f,b)=>match σ.at (σs.ids++pF b)with
   |none=>none
   |some a=>match pE a d b with
    |none=>none
    |some cr=>match a.at σs.ids with
     |none=>none
     |some e=>bif r.closed&&σs.clean (λg=>!(σs.ids++[]).contains g)then some (.y a.ids r,(.fn f []::cr,e))else none
 |_=>none
def v8(env:ah)(σ:W)(b:cg)(r:U):Op->Option (bP×bL)
 |.call c=>match mF env c with
  |none=>none
  |some (f,a)=>match σ.at b with
   |none=>none
   |some σs=>match kJ (pz 9 σs) a with
    |none=>none
    |some cr=>bif r.fu then some (.y σs.ids r,(.fn f []::cr,[]))else none
 |_=>none
def vA(ids:cg)(env:ah)(σ cb:W)(news:cg)(r:U)(σ2:W):Op->Option (bP×bL)
 |.call c=>match mF env c with
  |none=>none
  |some (f,b)=>match k2 cb.ids σ b with
   |none=>none
   |some cr=>match σ.at cb.ids with
    |none=>none
    |some d=>bif news.all (λa=>!ids.contains a&&(σ.get a).isNone)&&(σ.minus cb.ids).clean news.contains&&!r.refs (λa=>!(cb.ids++news).contains a)&&σ2.clean (λa=>!(cb.ids++news).contains a)then
      some (.e (cb.ids++news) news r (σ2++σ.minus cb.ids),(.fn f []::cr,d))else none
 |_=>none
def vC(ids:cg)(env:ah)(σ:W)(d news:cg)(r:U)(σ2:W):Op->Option (bP×bL)
 |.call c=>match mF env c with
  |none=>none
  |some (f,b)=>match σ.at d with
   |none=>none
   |some σs=>match kJ (pz 9 σs) b with
    |none=>none
    |some cr=>bif news.all (λa=>!ids.contains a&&(σ.get a).isNone)&&σ.clean news.contains&&r.jA&&!r.refs (λa=>!news.contains a)&&σ2.clean (λa=>!news.contains a)then some (.e news news r (σ2++σ),(.fn f []::cr,[]))else none
 |_=>none
def vw(bo:ef)(ids:cg)(env:ah)(σ:W)(d2 sz bytes:Nat)(zs:List (List U)):Op->Option (bP×bL)
 |.call c=>match c.callee with
  |.builtin b=>(match b with
   |.append=>(match c.args.toList with
    |[s,x]=>(match c.argTypes.toList with
     |[g,j]=>(match bo.get g with
      |some ⟨_,_,_,.slice E e m _⟩=>bif Nat.beq g j&&Nat.beq e sz&&Nat.beq m bytes&&!ids.contains d2 then(match env.bS x with
       |none=>none
       |some l=>match fG [] σ l with
        |some (.aL f a)=>(match env.bS s with
         |some (.own d)=>(match σ.get d with
          |some (.slice h i xs k _)=>bif Nat.beq h E&&Nat.beq i sz&&(σ.minus [d]).clean [d2].contains then some (.e [d,d2] [d2] (.own d2) ((d2,.slice h i zs k false)::σ.minus [d]),([.aL false xs,.aL false a],[]))else none
          |_=>none)
         |some .bC=>bif σ.clean [d2].contains then some (.e [d2] [d2] (.own d2) ((d2,.slice E e zs 0 false)::σ),([.aL false [],.aL false a],[]))else none
         |some (.aL true xs)=>bif σ.clean [d2].contains&&Nat.blt 0 a.length then some (.e [d2] [d2] (.own d2) ((d2,.slice E e zs 0 false)::σ),([.aL false xs,.aL false a],[]))else none
         |_=>none)
        |_=>none)else none
      |_=>none)
     |_=>none)
    |_=>none)
   |_=>none)
  |_=>none
 |_=>none
def pG:U->cg
 |.own d=>[d]
 |_=>[]
def tb(bo:ef)(env:ah)(σ:W)(sz:Nat)(zs:List (List U)):Op->Option (bP×bL)
 |.slice d x h g none=>match bo.get d with
  |some ⟨_,_,_,.slice _ e _ _⟩=>(match env.bS x with
   |none=>none
   |some c=>match fG [] σ c with
    |some (.aL f xs)=>(match ll env 0 h with
     |none=>none
     |some a=>match ll env (xs.length:Int) g with
      |none=>none
      |some b=>bif Nat.beq e sz then some (.y (pG c) (.aL false zs),([.aL false xs,.int .i64 a,.int .i64 b],[]))else none)
    |_=>none)
  |_=>none
 |_=>none
def qG(bo:ef)(env:ah)(σ:W)(sz:Nat)(zs:List (List U)):Op->Option (bP×bL)
 |.slice d x j (some i) (some h)=>match bo.get d with
  |some ⟨_,_,_,.slice _ g _ _⟩=>(match env.bS x with
   |none=>none
   |some c=>match fG [] σ c with
    |some (.aL f xs)=>(match ll env 0 j with
     |none=>none
     |some a=>match ll env (xs.length:Int) (some i)with
      |none=>none
      |some b=>match ll env (xs.length:Int) (some h)with
       |none=>none
       |some e=>bif Nat.beq g sz then some (.y (pG c) (.aL true zs),([.aL false xs,.int .i64 a,.int .i64 b,.int .i64 e],[]))else none)
    |_=>none)
  |_=>none
 |_=>none
def wQ(env:ah):Op->Option (bP×bL)
 |.binOp op _ x y _=>match env.bS x with
  |some (.int k m)=>(match env.bS y with
   |some (.int a n)=>bif decide (k=a)then(match op with
    |.quo=>some (.y [] (.int k (k.wrap (m.tdiv n))),([.int .i64 n],[]))
    |.rem=>some (.y [] (.int k (m.tmod n)),([.int .i64 n],[]))
    |_=>none)else none
   |_=>none)
  |_=>none
 |_=>none
def w6(env:ah):Op->Option (bP×bL)
 |.binOp op _ x y _=>match env.bS x with
  |some (.int k m)=>(match env.bS y with
   |some (.int _ n)=>(match op with
    |.shl=>some (.y [] (.int k (k.wrap (m*2 ^ min n.toNat k.bits))),([.int .i64 n],[]))
    |.shr=>some (.y [] (.int k (m.fdiv (2 ^ min n.toNat k.bits))),([.int .i64 n],[]))
    |_=>none)
   |_=>none)
  |_=>none
 |_=>none
def vk(bo:ef)(env:ah)(b:UInt8):Op->Option (bP×bL)
 |.index a x y=>match bo.get a with
  |some ⟨_,_,_,.str⟩=>(match env.bS x with
   |some (.str s)=>(match env.bS y with
    |some (.int _ n)=>some (.y [] (.int .u8 (b.toNat:Int)),([.str s,.int .i64 n],[]))
    |_=>none)
   |_=>none)
  |_=>none
 |_=>none
def wg(bo:ef)(env:ah)(σ:W)(E:Nat)(k:IntKind)(a:U)(b:Bool):Op->Option (bP×bL)
 |.lookup e x y ok=>match bo.get e with
  |some ⟨_,_,_,.map K c f⟩=>(match env.bS x with
   |some (.cc d)=>(match env.bS y with
    |some (.int aZ n)=>(match σ.get d with
     |some (.map g h bs)=>bif Nat.beq c E&&decide (f=k)&&decide (aZ=k)&&Nat.beq g K&&Nat.beq h c then some (.y [d] (bif ok then .bO [a,.bool b]else a),([.int .i64 n],[(0,.map 0 0 bs)]))else none
     |_=>none)
    |_=>none)
   |_=>none)
  |_=>none
 |_=>none
def wG(bo:ef)(env:ah)(σ:W)(k:IntKind)(XJ:List (U×U))(T:Nat)(x y z:Operand):Option (bP×bL):=match bo.get T with
  |some ⟨_,_,_,.map K e c⟩=>(match env.bS x with
   |some (.cc d)=>(match env.bS y with
    |some (.int aZ n)=>(match env.bS z with
     |some v=>(match σ.get d with
      |some (.map a b bs)=>bif decide (c=k)&&decide (aZ=k)&&Nat.beq a K&&Nat.beq b e then some (.e [d] [] .undef (σ.set d (.map a b XJ)),([.int .i64 n,v],[(0,.map 0 0 bs)]))else none
      |_=>none)
     |_=>none)
    |_=>none)
   |_=>none)
  |_=>none
def A3(bo:ef)(env:ah)(σ:W)(k:IntKind)(XJ:List (U×U)):Op->Option (bP×bL)
 |.mapUpdate a x y z=>wG bo env σ k XJ a x y z
 |.insert a x y z=>wG bo env σ k XJ a x y z
 |_=>none
def wh(bo:ef)(env:ah)(σ:W)(k:IntKind)(n:Int):Op->Option (bP×bL)
 |.call c=>match c.callee with
  |.builtin b=>(match b with
   |.len=>(match c.args.toList with
    |[x]=>(match c.argTypes.toList with
     |[a]=>(match bo.get a with
      |some ⟨_,_,_,.map K g e⟩=>(match env.bS x with
       |some (.cc d)=>(match σ.get d with
        |some (.map f h bs)=>bif decide (e=k)&&Nat.beq f K&&Nat.beq h g then some (.y [d] (.int .i64 n),([],[(0,.map 0 0 bs)]))else none
        |_=>none)
       |_=>none)
      |_=>none)
     |_=>none)
    |_=>none)
   |_=>none)
  |_=>none
 |_=>none
def xd(env:ah)(neg:Bool)(T:Nat)(r:Bool):Op->Option (bP×bL)
 |.binOp op c x y _=>match env.bS x with
  |none=>none
  |some a=>match env.bS y with
   |none=>none
   |some b=>bif a.plain&&b.plain&&Nat.beq c T then(match op with
    |.eql=>bif neg then none else some (.y [] (.bool r),([a,b],[]))
    |.neq=>bif neg then some (.y [] (.bool r),([a,b],[]))else none
    |_=>none)else none
 |_=>none
def w8(bo:ef)(env:ah)(neg:Bool):Op->Option (bP×bL)
 |.binOp op b x y _=>match env.bS x with
  |none=>none
  |some a=>match env.bS y with
   |some .bC=>(match bo.get b with
    |some ⟨_,_,_,.slice _ _ _ _⟩=>(match op with
     |.eql=>bif neg then none else some (.y [] (.bool false),([a],[]))
     |.neq=>bif neg then some (.y [] (.bool true),([a],[]))else none
     |_=>none)
    |_=>none)
   |_=>none
 |_=>none
def wN(env:ah)(T aM:Nat)(r:U):Op->Option (bP×bL)
 |.convert S b x=>match env.bS x with
  |none=>none
  |some a=>bif Nat.beq S T&&Nat.beq b aM then some (.y [] r,([a],[]))else none
 |_=>none
def wM(env:ah)(op:BinOp)(T:Nat)(r:U):Op->Option (bP×bL)
 |.binOp c S x y _=>match env.bS x with
  |none=>none
  |some a=>match env.bS y with
   |none=>none
   |some b=>bif decide (c=op)&&Nat.beq S T then some (.y [] r,([a,b],[]))else none
 |_=>none
def pH{P:Program}(bo:ef)(ids:cg)(o:Oper)(env:ah)(σ:W):Hint P->Option (bP×bL)
 |.rU=>match AF bo env σ o.op with
  |some (g,j)=>some (.y g j,([],[]))
  |none=>match Bl env σ bo o.op with
   |some s=>some (s,([],[]))
   |none=>none
 |.al d=>match mY bo ids env d o.op with|some s=>some (s,([],[]))|none=>none
 |.to h _ b _=>match pH bo ids o env σ h with
  |some (.y g j,SC)=>some (.y g b,(j::SC.1,SC.2))
  |_=>none
 |.ix c _ _ row _=>vR bo env σ c row o.op
 |.lo d c _ _ off row _=>wj bo env σ d c off row o.op
 |.so d c _ _ off _ zs _ k _=>w9 bo env σ d c off k zs o.op
 |.rf _ _ _ r _ _=>wV env σ r o.op
 |.ro m _ σs _ r _ _=>wZ env m σ σs r o.op
 |.le i _ _ r _ _=>v8 env σ i r o.op
 |.iy news _ q _ r l _ _=>vA ids env σ q news r l o.op
 |.dl i news _ _ r l _ _ _=>vC ids env σ i news r l o.op
 |.gs _ _ f _=>f ids o.op env σ
 |.ap d2 c bytes _ _ zs _=>vw bo ids env σ d2 c bytes zs o.op
 |.sl c _ _ _ zs _=>tb bo env σ c zs o.op
 |.qr _ _=>wQ env o.op
 |.sh _ _=>w6 env o.op
 |.is _ _ b _=>vk bo env b o.op
 |.lk E k _ _ a b _=>wg bo env σ E k a b o.op
 |.jq k _ _ _ XJ _=>A3 bo env σ k XJ o.op
 |.lm k _ n _=>wh bo env σ k n o.op
 |.td neg e _ _ r _=>xd env neg e r o.op
 |.tc neg _ _=>w8 bo env neg o.op
 |.s3 c _ _ _ zs _=>qG bo env σ c zs o.op
 |.pu e p _ r _=>wN env e p r o.op
 |.pb op e _ _ r _=>wM env op e r o.op
section
variable {P:Program}{N:Nat}{ids:cg}{bo:ef}{o:Oper}{env:ah}{σ:W}
def LY(k:fI P bo){s:bP}(b:Bl env σ bo o.op=some s):c7 ⟨P,N,ids⟩ o env σ s:=by
 cases d:o.op<;>rw[d]at b<;>simp only[Bl]at b
 case store T x y=>
  split at b
  .cases b
  .rename_i i j;have m:=(fL.get k.tys j).ty;split at b
   .rename_i r u e;split at b
    .cases b
    .rename_i a f;split at b
     .rename_i n q h;split at b
      .cases b
      .rename_i p l
       replace b:=dG b;obtain⟨c,b⟩:=b
       simp only[Bool.and_eq_true]at c;split at b
       .cases b
       .rename_i t g;cases b
        exact⟨awq d (auS e) m f h c.1.1 l c.1.2 c.2 g,rfl⟩
     .cases b
   .cases b
 all_goals cases b
def LZ(i:fI P bo){d:Nat}{s:bP}(b:mY bo ids env d o.op=some s):c7 ⟨P,N,ids⟩ o env σ s:=by
 cases f:o.op<;>rw[f]at b
 case alloc T=>
  simp only[mY]at b;split at b
  .rename_i w t zs u g;have q:=(fL.get i.tys g).B3 _ rfl;split at b
   .cases b
   .rename_i p h;cases e:ids.contains d with
    |true=>rw[e]at b;cases b
    |false=>rw[e]at b;cases b;exact⟨e,bf.alloc f q (ml h) e⟩
  .cases b
 case box T x=>
  simp only[mY]at b;split at b
  .cases b
  .rename_i a k;split at b
   .cases b
   .rename_i p h;obtain⟨c,⟨⟩⟩:=dG b;simp only[Bool.and_eq_true,Bool.not_eq_true']at c;exact⟨c.2,bf.box f k c.1.1 h c.1.2 c.2⟩
 case buildSlice T len parts=>
  simp only[mY]at b;split at b
  .rename_i g;have j:=(fL.get i.tys g).kd;simp only[g6]at j
   replace b:=dG b;obtain⟨c,b⟩:=b
   simp only[Bool.and_eq_true,Bool.not_eq_true']at c;split at b
   .cases b
   .rename_i v m;split at b
    .cases b
    .rename_i xs l;obtain⟨n,⟨⟩⟩:=dG b;exact⟨c.2,(aww f j.2.2 (by simpa using c.1.1) (by simpa using c.1.2) (by rw[<-yS,avx m];exact w5 _ l) n c.2).off⟩
  .cases b
 case makeMap T r=>
  cases r with
  |some r=>simp only[mY]at b;cases b
  |none=>
   simp only[mY]at b;split at b
   .rename_i g;cases e:ids.contains d with
    |true=>rw[e]at b;cases b
    |false=>rw[e]at b;cases b;exact⟨e,br.makeMap f e⟩
   .cases b
 all_goals (simp only[mY]at b;cases b)
variable {G:bQ}{i:Int}{k:IntKind}{x:Operand}
theorem awD{T E sz:Nat}{y:Operand}{f:Bool}{ev:Operand->U}(xs:List (List U))(j:o.op=.indexAddr T x y)(r:ev x=.aL f xs)(s:ev y=.int k i)(n:g8 G.P T E sz)
  (u:∀e∈xs,e.length=sz) (hi:0<=i/\i<xs.length):Yields G o ev σ [] [] (.dF (el xs i)):=
 .pure λD I w J h A F C p=>by
  have c:=p x (by simp[j,Op.operands]);rw[r]at c
  have d:=p y (by simp[j,Op.operands]);rw[s]at d;have d:=fW d
  simp only[az,aN]at c;obtain⟨a,H,c,B,z,_,g⟩:=c;have l:i.toNat<xs.length:=by omega
  rcases g with g|⟨b,q,rfl,g⟩
  .grind
  .have m:=Cs (sz:=sz) _ q i.toNat u g l;have t:xs.getD i.toNat []=el xs i:=by
    simp[List.getD_eq_getElem?_getD,l,el]
   rw[t]at m;refine⟨.pointer (some ⟨b,q+i.toNat*sz,none⟩),?_,by simp only[az,aN];exact⟨b,_,rfl,m⟩⟩;have v:∀h,(underlying T).run G.P h=.ok (.slice E) h:=λh=>by simp[underlying,program,Sem.run,n.ee]
   simp[execOp,j,c,d,Instr.indexAt,asIntOf,v,hi,n.size,g2]
variable {SC:bL}{xs:List (List U)}
def L1(u:fI P bo){sz:Nat}{row:List U}(n:mP sz xs i row){s:bP}(a:vR bo env σ sz row o.op=some (s,SC))(l:SC=([.aL false xs,.int .i64 i],[])):c7 ⟨P,N,ids⟩ o env σ s:=by
 obtain⟨m,h,j,p⟩:=n;cases d:o.op<;>rw[d]at a
 case indexAddr T x y=>
  simp only[vR]at a;split at a
  .rename_i w _ _ t;have e:=(fL.get u.tys t).kd;simp only[g6]at e;split at a
   .rename_i k A g;split at a
    .rename_i f z c;split at a
     .cases a
     .rename_i r v;obtain⟨b,⟨⟩⟩:=dG a;cases l;obtain rfl:=Nat.eq_of_beq_eq_true b;simp only[c7];rw[<-ml v,<-p];exact awD _ d (auS c) (auS g) e.1 m ⟨h,j⟩
    .rename_i G c;split at a
     .rename_i C B F E D q;obtain⟨b,⟨⟩⟩:=dG a;rw[Bool.and_eq_true]at b;cases l;obtain rfl:=Nat.eq_of_beq_eq_true b.1;obtain rfl:=Nat.eq_of_beq_eq_true b.2;exact awL _ id d (auS c) (auS g) (by rw[q0];exact q) e.1 ⟨h,j⟩
     .cases a
    .cases a
   .cases a
  .cases a
 all_goals (simp only[vR]at a;cases a)
def L2(t:fI P bo){d sz off:Nat}{row:List U}(h:mP sz xs i row){s:bP}(b:wj bo env σ d sz off row o.op=some (s,SC))(v:SC=([.aL false xs,.ptr d (i.toNat*sz+off)],[])):c7 ⟨P,N,ids⟩ o env σ s:=by
 obtain⟨y,j,l,p⟩:=h;cases e:o.op<;>rw[e]at b
 case load T x=>
  simp only[wj]at b;split at b
  .cases b
  .rename_i D r;have w:=(fL.get t.tys r).ty;split at b
   .rename_i F G f;split at b
    .rename_i C A B k E q
     replace b:=dG b;obtain⟨c,b⟩:=b
     simp only[Bool.and_eq_true]at c;obtain⟨⟨⟨z,g⟩,m⟩,n⟩:=c;split at b
     .cases b
     .rename_i a u;cases b;cases v;obtain rfl:=Nat.eq_of_beq_eq_true g;exact awM (i:=i) _ id e (auS f) (by rw[q0];exact q) rfl ⟨j,l⟩ w m n (by rw[id_eq,p];exact u)
    .cases b
   .cases b
 all_goals (simp only[wj]at b;cases b)
variable {zs:List (List U)}
def M6(v:fI P bo){d sz off k:Nat}{ca:List U}(l:uo sz xs i off ca zs)(A:(k:Int)<=i){s:bP}(b:w9 bo env σ d sz off k zs o.op=some (s,SC))(D:SC=([.aL false xs,.ptr d (i.toNat*sz+off),.agg ca],[])):c7 ⟨P,N,ids⟩ o env σ s:=by
 obtain⟨⟨F,m,n,_⟩,r⟩:=l;cases e:o.op<;>rw[e]at b
 case store T x y=>
  simp only[w9]at b;split at b
  .cases b
  .rename_i M u;have E:=(fL.get v.tys u).ty;split at b
   .rename_i R S g;split at b
    .cases b
    .rename_i a h;split at b
     .cases b
     .rename_i O z;split at b
      .rename_i L J K I Q t;obtain⟨c,⟨⟩⟩:=dG b;simp only[Bool.and_eq_true]at c;obtain⟨⟨⟨⟨⟨⟨H,j⟩,p⟩,q⟩,w⟩,B⟩,C⟩:=c;cases D;obtain rfl:=Nat.eq_of_beq_eq_true j;obtain rfl:=Nat.eq_of_beq_eq_true p;have f:=axo (G:=⟨P,N,ids⟩) (i:=i) (ev:=λx=>k1 (env.ev x)) xs id (ei (el xs i) off ca) e (show k1 (env.ev x)=_ by rw[auS g];rfl) (show k1 (env.ev y)=_ by rw[auS h]) (by rw[q0];exact t) rfl ⟨m,n⟩ A E q z w B C rfl;rw[q0,<-r]at f;exact⟨f.off,rfl⟩
      .cases b
   .cases b
 all_goals (simp only[w9]at b;cases b)
variable {cr:List U}{f:FuncId}{r:U}
def M7{i:Nat}{σs:W}(h:bY P f σs cr r)(n:bB P f){s:bP}(a:wZ env i σ σs r o.op=some (s,SC))(t:SC=(.fn f []::cr,σs)):c7 ⟨P,N,ids⟩ o env σ s:=by
 cases d:o.op<;>rw[d]at a
 case call c=>
  simp only[wZ]at a;split at a
  .cases a
  .rename_i w u q;obtain⟨v,args,k,aR,z,rfl,e,g,rfl⟩:=qK q;split at a
   .cases a
   .rename_i m l;split at a
    .cases a
    .rename_i x j;split at a
     .cases a
     .rename_i y p;obtain⟨b,⟨⟩⟩:=dG a;rw[Bool.and_eq_true]at b;cases t;exact bf.call (G:=⟨P,N,ids⟩) (σs:=m) (cb:=σs) d e n.h h g (yU j) (avg l).1 (avg p).1 b.1 b.2
 all_goals (simp only[wZ]at a;cases a)
def M8{d:List U}(i:bY P f [] (cr++d) r)(n:bB P f){s:bP}(a:wV env σ r o.op=some (s,SC))(q:SC=(.fn f d::cr,[])):c7 ⟨P,N,ids⟩ o env σ s:=by
 cases b:o.op<;>rw[b]at a
 case call c=>
  simp only[wV]at a;split at a
  .cases a
  .rename_i v t w p;obtain⟨u,args,k,rfl,e,h⟩:=KA p;split at a
   .cases a
   .rename_i m l;split at a
    .cases a
    .rename_i x j;obtain⟨g,⟨⟩⟩:=dG a;cases q;exact awN (G:=⟨P,N,ids⟩) (σs:=m) b e n.h (avg l).1.mem (by rw[avn h];exact yU j) i g
 all_goals (simp only[wV]at a;cases a)
def M9{p:cg}(h:bY P f [] cr r)(m:bB P f){s:bP}(a:v8 env σ p r o.op=some (s,SC))(q:SC=(.fn f []::cr,[])):c7 ⟨P,N,ids⟩ o env σ s:=by
 cases b:o.op<;>rw[b]at a
 case call c=>
  simp only[v8]at a;split at a
  .cases a
  .rename_i v t n;obtain⟨u,args,k,aR,x,rfl,d,g,rfl⟩:=qK n;split at a
   .cases a
   .rename_i l j;split at a
    .cases a
    .rename_i w i;obtain⟨e,⟨⟩⟩:=dG a;cases q;exact axa (G:=⟨P,N,ids⟩) (σs:=l) 9 b d m.h h g i (avg j).1 e
 all_goals (simp only[v8]at a;cases a)
theorem Na{news:cg}{cb σ2:W}(n:cI P f cb cr (λa i=>a=r/\i=σ2))(w:bB P f){s:bP}(b:vA ids env σ cb news r σ2 o.op=some (s,SC))(z:SC=(.fn f []::cr,cb)):c7 ⟨P,N,ids⟩ o env σ s:=by
 cases g:o.op<;>rw[g]at b
 case call c=>
  simp only[vA]at b;split at b
  .cases b
  .rename_i D A x;obtain⟨C,args,k,aR,I,rfl,h,j,rfl⟩:=qK x;split at b
   .cases b
   .rename_i E t;split at b
    .cases b
    .rename_i F u;obtain⟨e,⟨⟩⟩:=dG b;simp only[Bool.and_eq_true,Bool.not_eq_true']at e;obtain⟨⟨⟨d,m⟩,p⟩,q⟩:=e;cases z;refine⟨?_,by rw[List.all_eq_true]at d ⊢;exact λy v=>((Bool.and_eq_true _ _).mp (d y v)).1⟩;have B:=avP (G:=⟨P,N,ids⟩) (σ:=σ) news g h w.h n j (oP t) (avg u).1 d m (λJ H l=>by obtain⟨rfl,rfl⟩:=l;exact⟨p,q⟩)
     grind
 all_goals (simp only[vA]at b;cases b)
def Nb{A news:cg}{σ2:W}(m:cI P f [] cr (λa i=>a=r/\i=σ2))(w:bB P f)(y:nX σ2){s:bP}(b:vC ids env σ A news r σ2 o.op=some (s,SC))(C:SC=(.fn f []::cr,[])):c7 ⟨P,N,ids⟩ o env σ s:=by
 cases g:o.op<;>rw[g]at b
 case call c=>
  simp only[vC]at b;split at b
  .cases b
  .rename_i F D z;obtain⟨E,args,k,aR,I,rfl,h,j,rfl⟩:=qK z;split at b
   .cases b
   .rename_i v t;split at b
    .cases b
    .rename_i H q;obtain⟨e,⟨⟩⟩:=dG b;simp only[Bool.and_eq_true,Bool.not_eq_true']at e;obtain⟨⟨⟨⟨d,l⟩,n⟩,p⟩,x⟩:=e;cases C;exact⟨axv (G:=⟨P,N,ids⟩) (σs:=v) 9 news g h w.h m j q (avg t).1 d l n p x y,by rw[List.all_eq_true]at d ⊢;exact λB u=>((Bool.and_eq_true _ _).mp (d B u)).1⟩
 all_goals (simp only[vC]at b;cases b)
theorem Nc(Q:fI P bo){d2 sz bytes:Nat}{r:List (List U)}(E:pe sz bytes xs r zs){s:bP}(a:vw bo ids env σ d2 sz bytes zs o.op=some (s,SC))(q:SC=([.aL false xs,.aL false r],[])):c7 ⟨P,N,ids⟩ o env σ s:=by
 obtain⟨p,v,i,j,l,m⟩:=E;cases g:o.op<;>rw[g]at a
 case call c=>
  obtain⟨af,args,T⟩:=c;simp only[vw]at a;split at a
  .split at a
   .split at a
    .rename_i H x J;have:args=#[H,x]:=Array.toList_inj.1 (by simpa using J);subst this;split at a
     .rename_i u w R;have:T=#[u,w]:=Array.toList_inj.1 (by simpa using R);subst this;split at a
      .rename_i V W aa ab O;have h:=(fL.get Q.tys O).kd;simp only[g6]at h;generalize t:(Nat.beq u w&&_&&_&&_)=I at a;cases I with
       |false=>cases a
       |true=>
        simp only[cond_true]at a;simp only[Bool.and_eq_true,Bool.not_eq_true']at t;obtain⟨⟨⟨C,D⟩,F⟩,d⟩:=t;obtain rfl:=Nat.eq_of_beq_eq_true C;obtain rfl:=Nat.eq_of_beq_eq_true D;obtain rfl:=Nat.eq_of_beq_eq_true F;split at a
        .grind
        .rename_i X y;split at a
         .rename_i f S L;have n:fq σ (env.ev x) (.aL f S):=by rw[auS y];exact kB L
          split at a
          .rename_i ag e;split at a
           .rename_i Y Z K k ae M;obtain⟨b,⟨⟩⟩:=dG a;simp only[Bool.and_eq_true]at b;obtain⟨⟨B,A⟩,z⟩:=b;obtain rfl:=Nat.eq_of_beq_eq_true B;obtain rfl:=Nat.eq_of_beq_eq_true A;cases q;refine⟨?_,by simpa using d⟩;rw[<-p];exact cB.append (G:=⟨P,N,ids⟩) g (auS e) M n h.2.1 rfl i j l m d z
           .grind
          .rename_i e;obtain⟨b,⟨⟩⟩:=dG a;cases q;refine⟨?_,by simpa using d⟩;rw[<-p];exact avT (G:=⟨P,N,ids⟩) g (.inl ⟨auS e,rfl⟩) n h.2.1 v i j l m d b
          .rename_i K e;obtain⟨b,⟨⟩⟩:=dG a;rw[Bool.and_eq_true]at b;cases q;refine⟨?_,by simpa using d⟩;rw[<-p];exact avT (G:=⟨P,N,ids⟩) g (.inr ⟨auS e,(Iff.of_eq Nat.blt_eq).1 b.2⟩) n h.2.1 v i j l m d b.1
          .cases a
         .cases a
      .cases a
     .cases a
    .cases a
   .cases a
  .cases a
 all_goals (simp only[vw]at a;cases a)
variable {b:Int}
def Nd(D:fI P bo){sz:Nat}{a:Int}(y:mS sz xs a b zs){s:bP}(e:tb bo env σ sz zs o.op=some (s,SC))(H:SC=([.aL false xs,.int .i64 a,.int .i64 b],[])):c7 ⟨P,N,ids⟩ o env σ s:=by
 obtain⟨v,z,A⟩:=y;cases j:o.op<;>rw[j]at e
 case slice T x lo hi E=>
  cases E with
  |some m=>simp only[tb]at e;cases e
  |none=>
   simp only[tb]at e;split at e
   .rename_i K _ _ C;have p:=(fL.get D.tys C).kd;simp only[g6]at p;split at e
    .cases e
    .rename_i g h;split at e
     .rename_i f L c;split at e
      .cases e
      .rename_i J F;split at e
       .cases e
       .rename_i I B;obtain⟨r,⟨⟩⟩:=dG e;cases H;obtain rfl:=Nat.eq_of_beq_eq_true r;obtain⟨u,k⟩:=E2 F;obtain⟨q,i⟩:=y1 B
        have n:=br.slice (G:=⟨P,N,ids⟩) (σ:=σ) j (by rw[auS h];exact kB c) p.1 v u q (by rw[k,i];exact z) (pG g) (λt w=>by
         rw[auS h];have:fG [] t g=some (.aL f xs):=by
          cases g
          case own d=>simp only[fG]at c ⊢;rw[w _ (by simp[pG])];exact c
          case aL b l=>cases b<;>exact c
          case cc d=>simp only[fG]at c;split at c<;>first|cases c|(split at c<;>cases c)
          case agg l=>simp only[fG]at c;split at c<;>cases c
          case bO l=>simp only[fG]at c;split at c<;>cases c
          case fn f l=>simp only[fG]at c;split at c<;>cases c
          all_goals exact c
         exact kB this)
        rw[k,i,A]at n;exact n
     .cases e
   .cases e
 all_goals (simp only[tb]at e;cases e)
def Nf{n:Int}(f:n≠0){s:bP}(a:wQ env o.op=some (s,SC))(g:SC=([.int .i64 n],[])):c7 ⟨P,N,ids⟩ o env σ s:=by
 cases b:o.op<;>rw[b]at a
 case binOp op T x y j=>
  simp only[wQ]at a;split at a
  .rename_i k l d;split at a
   .rename_i h i e;cases c:decide (k=h)with
    |false=>rw[c]at a;cases a
    |true=>
     rw[c]at a;simp only[cond_true]at a;have:=of_decide_eq_true c;subst this;split at a
     .cases a;cases g;exact aw8 b (auS d) (auS e) f
     .cases a;cases g;exact br.rem b (auS d) (auS e) f
     .cases a
   .cases a
  .cases a
 all_goals (simp only[wQ]at a;cases a)
def Ng{n:Int}(e:0<=n){s:bP}(a:w6 env o.op=some (s,SC))(f:SC=([.int .i64 n],[])):c7 ⟨P,N,ids⟩ o env σ s:=by
 cases b:o.op<;>rw[b]at a
 case binOp op T x y i=>
  simp only[w6]at a;split at a
  .rename_i k j c;split at a
   .rename_i g h d;split at a
    .cases a;cases f;exact br.shift (op:=.shl) (.inl rfl) b (auS c) (auS d) e
    .cases a;cases f;exact br.shift (op:=.shr) (.inr rfl) b (auS c) (auS d) e
    .cases a
   .cases a
  .cases a
 all_goals (simp only[w6]at a;cases a)
def LH(j:fI P bo){e:ByteArray}{n:Int}{b:UInt8}(d:0<=n/\e[n.toNat]?=some b){s:bP}(a:vk bo env b o.op=some (s,SC))(l:SC=([.str e,.int .i64 n],[])):c7 ⟨P,N,ids⟩ o env σ s:=by
 cases c:o.op<;>rw[c]at a
 case index T x y=>
  simp only[vk]at a;split at a
  .rename_i i;have f:=(fL.get j.tys i).kd;simp only[g6]at f;split at a
   .rename_i m g;split at a
    .rename_i k p h;cases a;cases l;exact awK c (auS g) (auS h) f d.1 d.2
    .cases a
   .cases a
  .cases a
 all_goals (simp only[vk]at a;cases a)
variable {a:U}{bs:List (U×U)}
def Nh(t:fI P bo){E:Nat}{n:Int}{b:Bool}(l:uh P E k bs n a b){s:bP}(c:wg bo env σ E k a b o.op=some (s,SC))(w:SC=([.int .i64 n],[(0,.map 0 0 bs)])):c7 ⟨P,N,ids⟩ o env σ s:=by
 obtain⟨K,A,v,B,rfl,rfl,rfl,z⟩:=l;cases e:o.op<;>rw[e]at c
 case lookup T x y ok=>
  simp only[wg]at c;split at c
  .rename_i C H D r;have f:=(fL.get t.tys r).kd;simp only[g6]at f;split at c
   .rename_i I g;split at c
    .rename_i aZ F h;split at c
     .rename_i G J XJ q;obtain⟨d,⟨⟩⟩:=dG c;simp only[Bool.and_eq_true]at d;obtain⟨⟨⟨⟨i,j⟩,m⟩,p⟩,u⟩:=d;obtain rfl:=Nat.eq_of_beq_eq_true i;have:=of_decide_eq_true j;subst this;have:=of_decide_eq_true m;subst this;obtain rfl:=Nat.eq_of_beq_eq_true p;obtain rfl:=Nat.eq_of_beq_eq_true u;cases w;exact br.lookup A v B e (auS g) (auS h) q f z
     .cases c
    .cases c
   .cases c
  .cases c
 all_goals (simp only[wg]at c;cases c)
variable {XJ:List (U×U)}
def Fc(p:fI P bo){n:Int}{v:U}(h:q2 k bs n v XJ){T:Nat}{y z:Operand}(f:o.op=.mapUpdate T x y z\/o.op=.insert T x y z){s:bP}(a:wG bo env σ k XJ T x y z=some (s,SC))(u:SC=([.int .i64 n,v],[(0,.map 0 0 bs)])):c7 ⟨P,N,ids⟩ o env σ s:=by
 obtain⟨K,A,t,B,rfl,rfl,q,rfl⟩:=h;simp only[wG]at a;split at a
 .rename_i C H E m;have c:=(fL.get p.tys m).kd;simp only[g6]at c;split at a
  .rename_i I d;split at a
   .rename_i aZ F e;split at a
    .rename_i D w;split at a
     .rename_i G J XJ l;obtain⟨b,⟨⟩⟩:=dG a;simp only[Bool.and_eq_true]at b;obtain⟨⟨⟨g,i⟩,j⟩,r⟩:=b;have:=of_decide_eq_true g;subst this;have:=of_decide_eq_true i;subst this;obtain rfl:=Nat.eq_of_beq_eq_true j;obtain rfl:=Nat.eq_of_beq_eq_true r;cases u;exact⟨cB.mapUpdate A t B f (auS d) (auS e) (auS w) q l c,rfl⟩
     .cases a
    .cases a
   .cases a
  .cases a
 .cases a
def Ni(d:fI P bo){n:Int}{v:U}(c:q2 k bs n v XJ){s:bP}(a:A3 bo env σ k XJ o.op=some (s,SC))(e:SC=([.int .i64 n,v],[(0,.map 0 0 bs)])):c7 ⟨P,N,ids⟩ o env σ s:=by
 cases b:o.op<;>rw[b]at a
 case mapUpdate T x y z=>exact Fc d c (.inl b) a e
 case insert T x y z=>exact Fc d c (.inr b) a e
 all_goals (simp only[A3]at a;cases a)
theorem Nj(q:fI P bo){n:Int}(i:uj k bs n){s:bP}(a:wh bo env σ k n o.op=some (s,SC))(v:SC=([],[(0,.map 0 0 bs)])):c7 ⟨P,N,ids⟩ o env σ s:=by
 obtain⟨G,w,u,rfl,rfl⟩:=i;cases d:o.op<;>rw[d]at a
 case call c=>
  obtain⟨D,args,y⟩:=c;simp only[wh]at a;split at a
  .split at a
   .split at a
    .rename_i x l;have:args=#[x]:=Array.toList_inj.1 (by simpa using l);subst this;split at a
     .rename_i g t;have:y=#[g]:=Array.toList_inj.1 (by simpa using t);subst this;split at a
      .rename_i z C A p;have e:=(fL.get q.tys p).kd;simp only[g6]at e;split at a
       .rename_i E f;split at a
        .rename_i B F XJ m;obtain⟨b,⟨⟩⟩:=dG a;simp only[Bool.and_eq_true]at b;obtain⟨⟨h,j⟩,r⟩:=b;have:=of_decide_eq_true h;subst this;obtain rfl:=Nat.eq_of_beq_eq_true j;obtain rfl:=Nat.eq_of_beq_eq_true r;cases v;exact aw4 w u d rfl (auS f) m e.ee
        .grind
       .cases a
      .cases a
     .cases a
    .cases a
   .cases a
  .cases a
 all_goals (simp only[wh]at a;cases a)
variable {neg:Bool}
def Nk{T:Nat}{b:U}{r:Bool}(h:∀(x y:Operand) w,(do eqGuard (bif neg then .neq else .eql) T x y (valOf a) (valOf b);binOp (bif neg then .neq else .eql) T (valOf a) (valOf b):Sem Value).run P w=.ok (.bool r) w)
  {s:bP}  (c:xd env neg T r o.op=some (s,SC)) (i:SC=([a,b],[])):c7 ⟨P,N,ids⟩ o env σ s:=by
 cases e:o.op<;>rw[e]at c
 case binOp op m x y l=>
  simp only[xd]at c;split at c
  .cases c
  .rename_i k f;split at c
   .cases c
   .rename_i j g
    replace c:=dG c
    obtain⟨d,c⟩:=c;simp only[Bool.and_eq_true]at d;obtain rfl:=Nat.eq_of_beq_eq_true d.2;split at c
    .cases neg with
     |true=>cases c
     |false=>
      cases c;cases i;exact aw9 e (auS f) (auS g) d.1.1 d.1.2 (h x y)
    .cases neg with
     |false=>cases c
     |true=>
      cases c;cases i;exact axb e (auS f) (auS g) d.1.1 d.1.2 (h x y)
    .cases c
 all_goals (simp only[xd]at c;cases c)
def Nl{T aM:Nat}(g:∀(o:Oper) (N:Nat) (ids:cg) (ev:Operand->U) (σ:W) (x:Operand),o.op=.convert T aM x->ev x=a->Yields ⟨P,N,ids⟩ o ev σ [] [] r){s:bP}(b:wN env T aM r o.op=some (s,SC))(i:SC=([a],[])):c7 ⟨P,N,ids⟩ o env σ s:=by
 cases d:o.op<;>rw[d]at b
 case convert S k x=>
  simp only[wN]at b;split at b
  .cases b
  .rename_i j e;obtain⟨c,⟨⟩⟩:=dG b;simp only[Bool.and_eq_true]at c;have h:=Nat.eq_of_beq_eq_true c.1;have f:=Nat.eq_of_beq_eq_true c.2;subst h;subst f
   cases i;exact g o N ids env.ev σ x d (auS e)
 all_goals (simp only[wN]at b;cases b)
def Nn{op:BinOp}{T:Nat}{b:U}(i:∀(o:Oper) (N:Nat) (ids:cg) (ev:Operand->U) (σ:W) (x y:Operand) (aM:Nat),o.op=.binOp op T x y aM->ev x=a->ev y=b->Yields ⟨P,N,ids⟩ o ev σ [] [] r){s:bP}(c:wM env op T r o.op=some (s,SC))(k:SC=([a,b],[])):c7 ⟨P,N,ids⟩ o env σ s:=by
 cases e:o.op<;>rw[e]at c
 case binOp n S x y aM=>
  simp only[wM]at c;split at c
  .cases c
  .rename_i m f;split at c
   .cases c
   .rename_i l h;obtain⟨d,⟨⟩⟩:=dG c;simp only[Bool.and_eq_true]at d;have j:=of_decide_eq_true d.1;have g:=Nat.eq_of_beq_eq_true d.2;subst j;subst g
    cases k;exact i o N ids env.ev σ x y aM e (auS f) (auS h)
 all_goals (simp only[wM]at c;cases c)
theorem avU{ev:Operand->U}{T E sz:Nat}{hi i:Operand}{f:Bool}{h:Option Operand}{c:Int}(j:o.op=.slice T x h (some hi) (some i))(am:fq σ (ev x) (.aL f xs))(z:g8 G.P T E sz)(N:∀e∈xs,e.length=sz)(V:o4 ev h)
  (Y:o4 ev (some hi)) (aa:o4 ev (some i)) (B:kM ev xs.length (some hi)=c) (em:kM ev xs.length (some i)=c)
  (dX:0<=iR ev h/\iR ev h<=c/\c<=xs.length) (R:cg) (M:∀m:W,(∀d∈R,m.get d=σ.get d)->fq m (ev x) (.aL f xs)) :
  Yields G o ev σ [] R (.aL true ((xs.take c.toNat).drop (iR ev h).toNat)):=
 .pure λm aw an aA w l X I r=>by
  have q:=(M m X).rep I _ (r x (by simp[j,Op.operands]));simp only[az,aN]at q;obtain⟨a,D,q,ao,aq,_,s⟩:=q;generalize p:iR ev h=g at dX ⊢;have ae:(Instr.sliceBounds true xs.length D (h.map l) (some (l hi)) (some (l i))).run G.P w=.ok (g.toNat,c.toNat,c.toNat) w:=by
   have ag:0<=c/\c<=(D:Int):=by omega
   have S:0<=g/\g<=(c.toNat:Int):=by omega
   obtain⟨Z,ax,Q,v⟩:=px Y (r hi (by simp[j,Op.operands]));obtain⟨ab,C,ai,H⟩:=px aa (r i (by simp[j,Op.operands]));simp only[kM,Q]at B;simp only[kM,ai]at em;subst B em;have A:=run_sliceBound (P:=G.P) (k:=ab) (code:=.slice3Acap) (w:=w) ag;have u:=run_sliceBound (P:=G.P) (k:=Z) (n:=C) (y:=C.toNat) (code:=.slice3B) (w:=w) (by omega);cases h with
   |none=>
    simp only[iR]at p;subst p;simp[Instr.sliceBounds,v,H,A,u]
   |some y=>
    obtain⟨k,n,J,K⟩:=px V (r y (by simp[j,Op.operands]));simp only[iR,J]at p;subst p;have:=run_sliceBound (P:=G.P) (k:=k) (code:=.slice3C) (w:=w) S;simp[Instr.sliceBounds,v,H,A,u,K,this]
  have O:(execOp l o).run G.P w=.ok (.value (.slice (if c.toNat=g.toNat then a else a.map (·.add (g.toNat*sz))) (c.toNat-g.toNat) (c.toNat-g.toNat))) w:=by
   have af:∀w,(underlying T).run G.P w=.ok (.slice E) w:=λw=>run_underlying z.ee w;simp only[execOp,j,Instr.sliceAt,Instr.slice,q,Sem.run_bind,af,Result.andThen_ok,Option.map_some,ae,z.size,Sem.run_pure]
  refine⟨_,O,?_⟩;simp only[az,aN];have t:((xs.take c.toNat).drop g.toNat).length=c.toNat-g.toNat:=by rw[List.length_drop,List.length_take];omega
  refine⟨_,c.toNat-g.toNat,by rw[t],by rw[t];omega,by omega,λ_=>t.symm,?_⟩;by_cases F:(xs.take c.toNat).drop g.toNat=[]
  .exact .inl F
  .right;have ar:g.toNat<c.toNat:=by grind
   rcases s with rfl|⟨b,ak,rfl,s⟩
   .simp at F
   .refine⟨b,ak+g.toNat*sz,?_,Bx _ _ _ (λe L=>N e (List.mem_of_mem_take L)) (By _ _ _ s)⟩;rw[if_neg (by omega)];simp[g2]
theorem No(K:fI P bo){sz:Nat}{a:Int}(D:mS sz xs a b zs){s:bP}(e:qG bo env σ sz zs o.op=some (s,SC))(p:SC=([.aL false xs,.int .i64 a,.int .i64 b,.int .i64 b],[])):c7 ⟨P,N,ids⟩ o env σ s:=by
 obtain⟨z,E,F⟩:=D;cases j:o.op<;>rw[j]at e
 case slice T x lo h n=>
  cases n with
  |none=>cases h<;>(simp only[qG]at e;cases e)
  |some n=>cases h with
   |none=>simp only[qG]at e;cases e
   |some h=>
    simp only[qG]at e;split at e
    .rename_i S _ _ J;have q:=(fL.get K.tys J).kd;simp only[g6]at q;split at e
     .cases e
     .rename_i g i;split at e
      .rename_i f I c;split at e
       .cases e
       .rename_i R M;split at e
        .grind
        .rename_i O H;split at e
         .grind
         .rename_i Q A;obtain⟨u,⟨⟩⟩:=dG e;simp only[Prod.mk.injEq,List.cons.injEq,U.aL.injEq,U.int.injEq,and_true,true_and]at p;obtain⟨rfl,rfl,rfl,L⟩:=p;obtain rfl:=Nat.eq_of_beq_eq_true u;obtain⟨w,k⟩:=E2 M;obtain⟨r,t⟩:=y1 H;obtain⟨B,y⟩:=y1 A
          have m:=avU (G:=⟨P,N,ids⟩) (σ:=σ) j (by rw[auS i];exact kB c) q.1 z w r B t (y.trans L) (by rw[k];exact E) (pG g) (λv C=>by
           rw[auS i];have:fG [] v g=some (.aL f I):=by
            cases g
            case own d=>simp only[fG]at c ⊢;rw[C _ (by simp[pG])];exact c
            case aL b l=>cases b<;>exact c
            case cc d=>simp only[fG]at c;split at c<;>first|cases c|(split at c<;>cases c)
            case agg l=>simp only[fG]at c;split at c<;>cases c
            case bO l=>simp only[fG]at c;split at c<;>cases c
            case fn f l=>simp only[fG]at c;split at c<;>cases c
            all_goals exact c
           exact kB this)
          rw[k,F]at m;exact m
      .cases e
    .cases e
 all_goals (simp only[qG]at e;cases e)
def Hg{P:Program}(op:BinOp)(t:TypeId)(x y:Operand)(a b:Option Addr)(n d c e:Nat)(w:World):(eqGuard op t x y (.slice a n c) (.slice b d e)).run P w=.ok () w:=by
 unfold eqGuard;cases op<;>rfl
def R8{P:Program}(w:World)(t e:TypeId)(a:Option Addr)(n c b d:Nat)(f:P.underlying t=some (.slice e)):(binOp .neq t (.slice a n c) (.slice none b d)).run P w=.ok (.bool (!a.isNone)) w:=by
 simp only[binOp];simp[Op.equal,Op.maxDepth,Lib.run_equalIn_slice_nil w 9999 t e a n c b d f]
theorem Np(E:fI P bo)(C:vi a){s:bP}(b:w8 bo env neg o.op=some (s,SC))(p:SC=([a],[])):c7 ⟨P,N,ids⟩ o env σ s:=by
 cases j:o.op<;>rw[j]at b
 case binOp op T x y J=>
  simp only[w8]at b;split at b
  .cases b
  .rename_i l k;split at b
   .rename_i B;split at b
    .rename_i m n F q H G I D;have w:P.underlying T=some (.slice q):=(fL.get E.tys D).kd.1.ee;have z:∀(l:U),env.bS x=some l->l=a->∀(d:a2) (e:Nat->Value) (c:Operand->Value),(∀A∈o.op.operands,az d e (env.ev A) (c A))->∃i h f,c x=.slice (some i) h f/\c y=.slice none 0 0:=by
      intro l k u d e c g;have v:=g x (by simp[j,Op.operands]);rw[auS k,u]at v;have t:=g y (by simp[j,Op.operands]);rw[auS B]at t;simp only[az,aN]at t;obtain⟨i,h,f,u⟩:=C d e _ v
      grind
     split at b
     .cases neg with
      |true=>cases b
      |false=>
       cases b;simp only[Prod.mk.injEq,List.cons.injEq,and_true]at p;refine .pure λ_ _ d e r c _ _ g=>?_;obtain⟨i,h,f,m,n⟩:=z _ k p d e c g;refine⟨.bool false,?_,by simp[az,aN]⟩;simp only[execOp,j,m,n,Sem.run_bind,Hg,Result.andThen_ok,Lib.run_eql_slice_nil r T q (some i) h f 0 0 w];rfl
     .cases neg with
      |false=>cases b
      |true=>
       cases b;simp only[Prod.mk.injEq,List.cons.injEq,and_true]at p;refine .pure λ_ _ d e r c _ _ g=>?_;obtain⟨i,h,f,m,n⟩:=z _ k p d e c g;refine⟨.bool true,?_,by simp[az,aN]⟩;simp only[execOp,j,m,n,Sem.run_bind,Hg,Result.andThen_ok,R8 r T q (some i) h f 0 0 w];rfl
     .cases b
    .cases b
   .cases b
 all_goals (simp only[w8]at b;cases b)
theorem xZ(g:fI P bo):∀{hint:Hint P} {s:bP} {SC:bL},pH bo ids o env σ hint=some (s,SC)->SC=hint.exp->c7 ⟨P,N,ids⟩ o env σ s
 |.rU,s,SC,h,he=>by
  simp only[pH]at h;split at h
  .rename_i t A u;cases h;exact LX g u
  .split at h
   .rename_i x l;cases h;exact LY g l
   .cases h
 |.al d,s,SC,h,he=>by
  simp only[pH]at h;split at h
  .rename_i x l;cases h;exact LZ g l
  .cases h
 |.to D a b e,s,SC,h,he=>by
  simp only[pH]at h;split at h
  .rename_i t A J l;cases h
   simp only[Hint.exp,Prod.mk.injEq,List.cons.injEq]at he;obtain⟨⟨M,q⟩,w⟩:=he;have:=xZ g l (Prod.ext q w)
   grind
  .cases h
 |.ix m xs i row c,s,SC,h,he=>L1 g c h he
 |.lo d m xs i off row c,s,SC,h,he=>L2 g c h he
 |.so d m xs i off K zs c k hk,s,SC,h,he=>M6 g c hk h he
 |.rf f I cr r c j,s,SC,h,he=>M8 c j h he
 |.ro F f σs cr r c j,s,SC,h,he=>M7 c j h he
 |.le z f cr r c j,s,SC,h,he=>M9 c j h he
 |.iy news f L cr r B c j,s,SC,h,he=>Na c j h he
 |.dl z news f cr r B c j y,s,SC,h,he=>Nb c j y h he
 |.gs O ex f c,s,SC,h,he=>c o N ids env σ s SC h he
 |.ap d2 m bytes xs C zs c,s,SC,h,he=>Nc g c h he
 |.sl m xs a b zs c,s,SC,h,he=>Nd g c h he
 |.qr n c,s,SC,h,he=>Nf c h he
 |.sh n c,s,SC,h,he=>Ng c h he
 |.is G n b c,s,SC,h,he=>LH g c h he
 |.lk E k bs n a b c,s,SC,h,he=>Nh g c h he
 |.jq k bs n v XJ c,s,SC,h,he=>Ni g c h he
 |.lm k bs n c,s,SC,h,he=>Nj g c h he
 |.td neg p a b r c,s,SC,h,he=>Nk c h he
 |.tc neg a c,s,SC,h,he=>Np g c h he
 |.s3 m xs a b zs c,s,SC,h,he=>No g c h he
 |.pu p H a r c,s,SC,h,he=>Nl c h he
 |.pb op p a b r c,s,SC,h,he=>Nn c h he
end
end
section
inductive hR where
 |bK (b2:cg)
 |ad (t d T sz:Nat)
 |ac (d0 d T sz i:Nat)
 |eC (a b:Nat)
 |sc (d0:Nat) (kp:cg)
 |rn (a b:Nat)
def oJ(ids:cg)(env:ah)(σ:W):hR->Option (ah×W)
 |.bK h=>some (env,σ.freeze h)
 |.ad t c f g=>match env.find t with
  |some .bC=>bif (σ.get c).isNone&&!ids.contains c&&env.clean (Nat.beq c)&&σ.clean (Nat.beq c)then some ((t,.own c)::env,(c,.slice f g [] 0 false)::σ)else none
  |_=>none
 |.ac d0 c f g i=>match σ.get d0 with
  |some (.cells e d)=>(match d.drop i with
   |.bC::post=>bif !Nat.beq d0 c&&!ids.contains c&&env.clean (Nat.beq c)&&σ.clean (Nat.beq c)then some (env,(c,.slice f g [] 0 false)::σ.set d0 (.cells e (d.take i++.own c::post)))else none
   |_=>none)
  |_=>none
 |.eC a b=>bif pr (swp a b) (swp a b) ids env σ then some (env.ct (swp a b),σ.ct (swp a b))else none
 |.rn a b=>bif pr (λc=>bif Nat.beq c a then b else c) (λc=>bif Nat.beq c b then a else c) ids env σ then some (env.ct (λc=>bif Nat.beq c a then b else c),σ.ct (λc=>bif Nat.beq c a then b else c))else none
 |.sc d0 k=>match σ.get d0 with
  |some (.cells e d)=>(match k2 k σ d with|none=>none|some j=>some (env,σ.set d0 (.cells e j)))
  |_=>none
def n3(ids:cg):List hR->ah->W->Option (ah×W)
 |[],env,σ=>some (env,σ)
 |m::r,env,σ=>match oJ ids env σ m with
  |none=>none
  |some (e,s)=>n3 ids r e s
theorem Nq{G:bQ}{env cu:ah}{σ σ2:W}{m:hR}(h:oJ G.ids env σ m=some (cu,σ2)):bJ G env σ cu σ2:=by
 cases m with
 |bK J=>cases h;exact bJ.freeze G env σ J
 |ad t b n p=>
  simp only[oJ]at h;split at h
  .rename_i E;generalize a:((σ.get b).isNone&&_&&_&&_)=f at h;cases f with
   |false=>cases h
   |true=>
    cases h;simp only[Bool.and_eq_true,Bool.not_eq_true',Option.isNone_iff_eq_none]at a;exact awn t b n p (avd E) a.1.1.1 a.1.1.2 a.1.2 a.2
  .cases h
 |ac d0 b n p i=>
  simp only[oJ]at h;split at h
  .rename_i l r j;split at h
   .rename_i post A;generalize a:(!Nat.beq d0 b&&_&&_&&_)=f at h;cases f with
    |false=>cases h
    |true=>
     cases h;simp only[Bool.and_eq_true,Bool.not_eq_true']at a;exact awl d0 b n p l (r.take i) post (by rw[j,<-A,List.take_append_drop]) a.1.1.1 a.1.1.2 a.1.2 a.2
   .cases h
  .cases h
 |eC g d=>
  simp only[oJ]at h;cases a:pr (swp g d) (swp g d) G.ids env σ with
  |false=>rw[a]at h;cases h
  |true=>rw[a]at h;cases h;exact bJ.ct _ _ a
 |rn g d=>
  simp only[oJ]at h;generalize a:pr _ _ _ _ _=f at h;cases f with
  |false=>cases h
  |true=>cases h;exact bJ.ct _ _ a
 |sc d0 N=>
  simp only[oJ]at h;split at h
  .rename_i l r j;split at h
   .cases h
   .rename_i K D;cases h;refine λM I L g O e w=>⟨I,L,?_,w⟩;have eZ:=oP D;refine{e with b5:=λb o c=>?_,cA:=λb q c B C d=>?_}
    .rw[au5]at c;split at c
     .rename_i F;subst F;rw[j]at c;simp only[Option.map_some,Option.some.injEq]at c;subst c;have:=e.b5 b _ j;simp only[bb]at this ⊢;rcases this with s|⟨d,H,s,v,z,y⟩
      .grind
      .exact .inr ⟨d,H,s,v,eZ.rep e _ z,y⟩
     .exact e.b5 b o c
    .have u:∀x,((σ.set d0 (.cells l K)).get x).isSome->(σ.get x).isSome:=λx k=>by
      rw[au5]at k;split at k
      .grind
      .exact k
     exact e.cA b q (u b c) (u q B) C d
  .cases h
def qP{G:bQ}:∀{a:List hR} {env cu:ah} {σ σ2:W},n3 G.ids a env σ=some (cu,σ2)->bJ G env σ cu σ2
 |[],env,_,σ,_,h=>by cases h;exact bJ.refl G env σ
 |m::r,env,cu,σ,σ2,h=>by
  simp only[n3]at h;split at h
  .cases h
  .rename_i c s b;exact(Nq b).trans (qP h)
def pI(sl:cg)(c:cg)(σ:W)(env:ah):cg->Option ah
 |[]=>some []
 |k::r=>match env.find k with
  |none=>none
  |some a=>match(bif sl.any (Nat.beq k)then fG c σ a else some a)with
   |none=>none
   |some b=>match pI sl c σ env r with
    |none=>none
    |some l=>some ((k,b)::l)
def x0{sl:cg}{e:cg}{σ:W}{env:ah}:∀{ks:cg} {cu:ah},pI sl e σ env ks=some cu->qO σ env cu
 |[],cu,h=>by cases h;trivial
 |k::r,cu,h=>by
  simp only[pI]at h;split at h
  .cases h
  .rename_i f d;split at h
   .cases h
   .rename_i g a;split at h
    .cases h
    .rename_i i c;cases h;refine⟨?_,x0 c⟩;rw[avd d];cases b:sl.any (Nat.beq k)with
     |false=>rw[b]at a;cases a;exact .refl _
     |true=>rw[b]at a;exact kB a
def pJ(ids:cg)(b:List hR)(sl:cg)(ks a:cg)(env:ah)(σ:W):Option (ah×W):=match n3 ids b env σ with
 |none=>none
 |some (e,s)=>match pI sl a s e ks with
  |none=>none
  |some d=>match s.at a with
   |none=>none
   |some c=>some (d,c)
def DR{G:bQ}{a:List hR}{sl:cg}{ks c:cg}{env cu:ah}{σ σ2:W}(h:pJ G.ids a sl ks c env σ=some (cu,σ2)):bJ G env σ cu σ2:=by
 simp only[pJ]at h;split at h
 .cases h
 .rename_i g s e;split at h
  .cases h
  .rename_i i d;split at h
   .cases h
   .rename_i f b;cases h;exact(qP e).trans (avN (x0 d) (avg b).1)
abbrev jY(e:ah):cg:=e.map (·.1)
def bJ.go{G:bQ}{env cu:ah}{σ σ2:W}(u:List hR)(sl:cg)(h:pJ G.ids u sl (jY cu) σ2.ids env σ=some (cu,σ2)):bJ G env σ cu σ2:=DR h
def rq(ops:hU)(o:Oper)(env:ah):fz:=match o.guard with
 |none=>some true
 |some (c,want)=>match ops[c]? with
  |none=>none
  |some b=>match b.dst with
   |none=>none
   |some a=>match env.find a with
    |some (.bool true)=>some want
    |some (.bool false)=>some (!want)
    |some .undef=>some false
    |_=>none
theorem uD{ops:hU}{o:Oper}{env:ah}(h:rq ops o env=some true):fD ops o env:=by
 unfold rq at h;split at h
 .exact fD.n ‹_›
 .rename_i g i c;split at h
  .cases h
  .rename_i f b;split at h
   .cases h
   .rename_i e d;split at h
    .rename_i a;cases h;exact awh c b d (avd a) rfl
    .rename_i a;simp only[Option.some.injEq,Bool.not_eq_true']at h;subst h;exact awh c b d (avd a) rfl
    all_goals grind
def E3{ops:hU}{o:Oper}{env:ah}(h:rq ops o env=some false):gY ops o env:=by
 unfold rq at h;split at h
 .cases h
 .rename_i g i c;split at h
  .cases h
  .rename_i f b;split at h
   .cases h
   .rename_i e d;split at h
    .rename_i a;cases h;exact awi c b d (avd a) rfl
    .rename_i a;simp only[Option.some.injEq,Bool.not_eq_false']at h;subst h;exact awi c b d (avd a) rfl
    .rename_i a;exact gY.undef c b d (avd a)
    .cases h
def kN{P:Program}(bo:ef)(ids:cg)(ops:hU)(s:hj):List (Nat×Hint P)->List (Nat×cg)->ah->W->Option (ah×W×List bL)
 |[],_,env,σ=>some (env,σ,[])
 |(i,h)::r,log,env,σ=>match ops[i]? with
  |none=>none
  |some o=>match rq ops o env with
   |none=>none
   |some false=>(match kN bo ids ops s r (bif iY s i then(i,[])::log else log) (env.put o.dst .undef) σ with
    |none=>none
    |some (e,a,b)=>some (e,a,([],[])::b))
   |some true=>match pH bo ids o env σ h with
    |none=>none
    |some (.y g f,d)=>bif !iY s i||zN σ g then(match kN bo ids ops s r (bif iY s i then(i,g)::log else log) (env.put o.dst f) σ with
     |none=>none
     |some (e,a,b)=>some (e,a,d::b))else none
    |some (.v c j f,d)=>bif iY s i&&env.clean [c].contains&&σ.clean [c].contains&&Ge j then(match kN bo ids ops s r ((i,[c])::log) (env.put o.dst f) ((c,j)::σ)with
     |none=>none
     |some (e,a,b)=>some (e,a,d::b))else none
    |some (.e M news f k,d)=>bif l6 s i&&(!s.di||k5 s i M log)&&env.clean news.contains&&news.all (λc=>(σ.get c).isNone)then(match kN bo ids ops s r log (env.put o.dst f) k with
     |none=>none
     |some (e,a,b)=>some (e,a,d::b))else none
theorem Fe{s:hj}{i:Nat}(h:iY s i=false):l6 s i=true:=by
 unfold iY at h;unfold l6
 grind
def nF{P:Program}{bo:ef}{N:Nat}{ids:cg}{ops:hU}{s:hj}{K:ah->W->Prop}(d:fI P bo):∀{w:List (Nat×Hint P)} {t:List (Nat×cg)} {env q:ah} {σ n:W} {m:List bL},
  kN bo ids ops s w t env σ=some (q,n,m)->m=w.map (λp=>p.2.exp)->K q n->ep ⟨P,N,ids⟩ ops s t (w.map (·.1)) env σ K
 |[],t,env,q,σ,n,m,h,_,k=>by cases h;exact C.nil k
 |(i,L)::r,t,env,q,σ,n,m,h,he,k=>by
  simp only[kN]at h;split at h
  .cases h
  .rename_i o g;split at h
   .cases h
   .rename_i f;split at h
    .cases h
    .rename_i y u v b;cases h;simp only[List.map_cons,List.cons.injEq]at he ⊢;cases c:iY s i with
     |true=>rw[c]at b;exact C.skip g (E3 f) c (nF d b he.2 k)
     |false=>rw[c]at b;exact C.Ol g (E3 f) (Fe c) (nF d b he.2 k)
   .rename_i f;split at h
    .cases h
    .rename_i F B z l;generalize a:(!iY s i||_)=j at h;cases j with
     |false=>cases h
     |true=>
      simp only[cond_true]at h;split at h
      .cases h
      .rename_i y u v b;cases h;simp only[List.map_cons,List.cons.injEq]at he ⊢;have e:=xZ (N:=N) d l he.1;cases c:iY s i with
       |true=>
        rw[c]at b a;exact C.y g (uD f) c (by simpa using a) e (nF d b he.2 k)
       |false=>
        rw[c]at b;exact C.om g (uD f) (Fe c) e (nF d b he.2 k)
    .rename_i x I B z l;generalize a:(iY s i&&_&&_&&_)=j at h;cases j with
     |false=>cases h
     |true=>
      simp only[cond_true]at h;simp only[Bool.and_eq_true]at a;split at h
      .cases h
      .rename_i y u v b;cases h;simp only[List.map_cons,List.cons.injEq]at he ⊢;have e:=xZ (N:=N) d l he.1;exact C.v g (uD f) a.1.1.1 e.1 a.1.1.2 a.1.2 a.2 e.2 (nF d b he.2 k)
    .rename_i E M B G z l;generalize a:(l6 s i&&_&&_&&_)=j at h;cases j with
     |false=>cases h
     |true=>
      simp only[cond_true]at h;simp only[Bool.and_eq_true]at a;split at h
      .cases h
      .rename_i y u v b;cases h;simp only[List.map_cons,List.cons.injEq]at he ⊢;have e:=xZ (N:=N) d l he.1;refine C.e g (uD f) a.1.1.1 e.1 a.1.1.2 a.1.2 ?_ (λH J D=>?_)
       .rw[List.all_eq_true];intro x A;rw[Bool.and_eq_true];exact⟨List.all_eq_true.1 e.2 x A,List.all_eq_true.1 a.2 x A⟩
       .obtain⟨rfl,rfl⟩:=D;exact nF d b he.2 k
def Gl(l:cg)(n:Nat):cg:=bif l.any (Nat.beq n)then l else n::l
def Rt(ops:List Oper):jh:=
 (ops.foldl (λ(a:jh) o=>(o.after.toList.foldl (λc b=>bif Region.binds .any b then(a.getD (a.length-1-b.on) []).foldl Gl (Gl c b.on)else c) [])::a) []).reverse
def Hint.pX{P:Program}:Hint P->Bool
 |.iy ..|.dl ..|.ap ..=>true
 |.gs e _ _ _=>e
 |_=>false
def N5:Op->Bool
 |.assign _|.store ..|.mapUpdate ..|.insert ..|.entryStore ..|.makeSlice ..=>true
 |_=>false
def hintOf{P:Program}(a:List (Nat×Hint P))(i:Nat):Hint P:=match a with
 |[]=>.rU
 |(k,h)::r=>bif Nat.beq k i then h else hintOf r i
def z7{P:Program}(a:List (Nat×Hint P)):Nat->List Oper->cg
 |_,[]=>[]
 |i,o::r=>bif N5 o.op||(hintOf a i).pX then i::z7 a (i+1) r else z7 a (i+1) r
def z8(T:jh)(es left:cg):cg->fV->fV
 |[],f=>f
 |i::r,f=>bif (T.getD i []).any (λa=>left.any (Nat.beq a))then z8 T es left r f
   else bif es.any (Nat.beq i)then z8 T es left r (match f with|none=>some i|some x=>some x)else some i
def Ff(T:jh)(es:cg):Nat->cg->cg
 |0,_=>[]
 |n+1,left=>match z8 T es left left none with
  |none=>[]
  |some i=>i::Ff T es n (left.filter λa=>!Nat.beq i a)
def gF{P:Program}(ops:hU)(di:Bool)(c:List (Nat×Hint P)):hj×cg:=
 bif di then
  let a:=Rt ops.toList
  let b:=z7 c 0 ops.toList
  (⟨true,a,b⟩,Ff a b ops.size (List.range ops.size))
 else(⟨false,[],[]⟩,List.range ops.size)
def wK(N:Nat)(ops:hU)(di:Bool)(s:hj)(l:cg):Bool:=bif di then s.di&&uU N ops s l else !s.di&&s.T.isEmpty&&s.es.isEmpty&&mE N ops
def mH{P:Program}(bo:ef)(N:Nat)(ids:cg)(ops:hU)(di:Bool)(s:hj)(l:cg)(b:List hR)(d:List (Nat×Hint P))(ks a:cg)(env:ah)(σ:W):Option (ah×W×List bL):=
 bif wK N ops di s l then
  (match n3 ids b env σ with
  |none=>none
  |some (c,WD)=>match kN bo ids ops s (l.map λi=>(i,hintOf d i)) [] c WD with
   |none=>none
   |some (g,s1,e)=>match pI [] a s1 g ks with
    |none=>none
    |some h=>match s1.at a with
     |none=>none
     |some f=>some (h,f,e))
 else none
section code
variable {P:Program}{N:Nat}{ids:cg}{bo:ef}{env:ah}{σ:W}{SN:Exit->ah->W->Prop}{x y c:Code}
variable {di:Bool}{ops:hU}
theorem A.R(aH:fI P bo){id:Nat}(af:List hR)(Y:List (Nat×Hint P))(cu:ah)(σ2:W)
  (h:mH bo N ids ops di (gF ops di Y).1 (gF ops di Y).2 af Y (jY cu) σ2.ids env σ=some (cu,σ2,(gF ops di Y).2.map λi=>(hintOf Y i).exp)) (k:SN .normal cu σ2):ar ⟨P,N,ids⟩ (.region id ops di) SN env σ:=by
 generalize eZ:gF ops di Y=sl at h;obtain⟨s,l⟩:=sl;simp only[mH]at h;cases u:wK N ops di s l with
 |false=>rw[u]at h;cases h
 |true=>
  rw[u]at h;simp only[cond_true]at h;split at h
  .cases h
  .rename_i ag WD aw;split at h
   .cases h
   .rename_i O X ax am;split at h
    .cases h
    .rename_i ao aq;split at h
     .cases h
     .rename_i an c0;simp only[Option.some.injEq,Prod.mk.injEq]at h;obtain⟨rfl,rfl,ab⟩:=h;refine auZ (qP aw) ?_
      have D:∀K:ah->W->Prop,K O X->ep ⟨P,N,ids⟩ ops s [] l ag WD K:=λK ae=>by
       have:=nF (N:=N) (K:=K) aH am (by rw[ab,List.map_map];rfl) ae;rw[List.map_map,show((λx:Nat×Hint P=>x.1)∘λi=>(i,hintOf Y i))=λi=>i from rfl,List.map_id']at this;exact this
      refine avw ?_;have F:∃cu σ2,bJ ⟨P,N,ids⟩ O X cu σ2/\SN .normal cu σ2:=⟨ao,an,avN (x0 aq) (avg c0).1,k⟩;cases di with
      |false=>
       simp only[wK,cond_false,Bool.and_eq_true,Bool.not_eq_true',List.isEmpty_iff]at u;have ai:s=⟨false,[],[]⟩:=by
        obtain⟨a,b,c⟩:=s
        grind
       have ak:l=List.range ops.size:=by
        have:=congrArg Prod.snd eZ;simpa [gF]using this.symm
       subst ai ak;exact A.region u.2 (D _ F)
      |true=>
       simp only[wK,cond_true,Bool.and_eq_true]at u;obtain⟨az,T,es⟩:=s;obtain⟨Q,aa⟩:=u;simp only at Q;subst Q;exact A.any T es l aH.mix aa (D _ F)
def auT(c:fI P bo){id:Nat}(b:List hR)(a:List (Nat×Hint P))(cu:ah)(σ2:W)
  (h:mH bo N ids ops di (gF ops di a).1 (gF ops di a).2 b a (jY cu) σ2.ids env σ=some (cu,σ2,(gF ops di a).2.map λi=>(hintOf a i).exp)) (k:ar ⟨P,N,ids⟩ y SN cu σ2):ar ⟨P,N,ids⟩ (.seq (.region id ops di) y) SN env σ:=
 A.seq (A.R c b a cu σ2 h k)
variable {G:bQ}{o:Operand}{p:Bool}
def au3(c:env.bS o=some (.bool p))(b:p=true)(k:ar G x SN env σ):ar G (.cond o x y) SN env σ:=A.cond (auS c) (λ_=>k) (λa=>by rw[b]at a;cases a)
def au1(c:env.bS o=some (.bool p))(b:p=false)(k:ar G y SN env σ):ar G (.cond o x y) SN env σ:=A.cond (auS c) (λa=>by rw[b]at a;cases a) (λ_=>k)
def A.J{G:bQ}{α SF:Type}{J:α->Option SF}{r:SF}(O:α->ah)(Q:α->W)
  (h:ar G x (kI (λF D=>∃g,J g=some r/\bJ G F D (O g) (Q g)) SN) env σ) (k:∀g,J g=some r->ar G y SN (O g) (Q g)):ar G (.seq x y) SN env σ:=by
 refine A.seq (h.mono ?_);intro e F D u;cases e with
 |normal=>
  obtain⟨g,X,aa⟩:=u;exact auZ aa (k g X)
 |_=>exact u
variable {S SF:Type}{WD:S}{r:SF}
theorem auV{α:Type}{l:List α}{B:Int->α->(S->Option SF)->S->Option SF}{K:S->Option SF}{cD:Nat}(w:bZ (l.drop cD) cD B K WD=some r)(e:Nat->S->ah)(f:Nat->S->W)
  (p:bJ G env σ (e cD WD) (f cD WD))
  (q:∀(j:Nat) (x:α) (bf:S->Option SF) (s:S),cD<=j->l[j]?=some x->B j x bf s=some r->ar G c (kI (λm i=>∃d,bf d=some r/\bJ G m i (e (j+1) d) (f (j+1) d)) SN) (e j s) (f j s))
  (t:∀(j:Nat) (s:S),cD<=j->l.length<=j->K s=some r->ar G c (kI (λ_ _=>False) SN) (e j s) (f j s)):ar G (.loop c) SN env σ:=by
 refine A.loop (α:=Nat×S) (λa=>e a.1 a.2) (λa=>f a.1 a.2) (λa=>cD<=a.1/\bZ (l.drop a.1) a.1 B K a.2=some r) (λa=>l.length-a.1) (cD,WD) ⟨Nat.le_refl _,w⟩ p ?_;rintro⟨j,s⟩ ⟨g,b⟩;simp only at g b ⊢;by_cases k:j<l.length
 .have n:l[j]?=some l[j]:=List.getElem?_eq_getElem k;rw[List.drop_eq_getElem_cons k]at b;refine(q j l[j] (bZ (l.drop (j+1)) (j+1) B K) s g n b).mono ?_;intro u m i h;cases u with
  |normal=>
   obtain⟨d,v,o⟩:=h;exact⟨(j+1,d),⟨by omega,v⟩,by show l.length-(j+1)<l.length-j;omega,o⟩
  |_=>exact h
 .rw[List.drop_eq_nil_of_le (by omega)]at b;refine(t j s g (by omega) b).mono ?_
  grind
def avj{o:Nat}{b hi:Int}{B:Int->(S->Option SF)->S->Option SF}{K:Int->S->Option SF}(x:gj o b B K WD=some r)(n:o=(hi-b).toNat)(g:Int->S->ah)(h:Int->S->W)
  (t:bJ G env σ (g b WD) (h b WD))
  (u:∀(i:Int) (bf:S->Option SF) (s:S),b<=i->i<hi->B i bf s=some r->ar G c (kI (λm l=>∃f,bf f=some r/\bJ G m l (g (i+1) f) (h (i+1) f)) SN) (g i s) (h i s))
  (v:∀(i:Int) (s:S),b<=i->hi<=i->K i s=some r->ar G c (kI (λ_ _=>False) SN) (g i s) (h i s)):ar G (.loop c) SN env σ:=by
 refine A.loop (α:=Nat×Int×S) (λa=>g a.2.1 a.2.2) (λa=>h a.2.1 a.2.2) (λa=>b<=a.2.1/\a.1=(hi-a.2.1).toNat/\gj a.1 a.2.1 B K a.2.2=some r) (λa=>a.1) (o,b,WD) ⟨Int.le_refl _,n,x⟩ t ?_;rintro⟨d,i,s⟩ ⟨j,n,k⟩;simp only at j n k ⊢;cases d with
 |zero=>
  refine(v i s j (by omega) k).mono ?_;intro p m l e;cases p with
  |normal=>exact e.elim
  |_=>exact e
 |succ d=>
  refine(u i (gj d (i+1) B K) s j (by omega) k).mono ?_;intro p m l e;cases p with
  |normal=>
   obtain⟨f,w,q⟩:=e;exact⟨(d,i+1,f),⟨by show b<=i+1;omega,by show d=(hi-(i+1)).toNat;omega,w⟩,by show d<d+1;omega,q⟩
  |_=>exact e
def au6{F:(S->Option SF)->S->Option SF}{k:Nat}(q:iter F k WD=some r)(e:S->ah)(f:S->W)(m:bJ G env σ (e WD) (f WD))
  (n:∀(bf:S->Option SF) (s:S),F bf s=some r->ar G c (kI (λj i=>∃d,bf d=some r/\bJ G j i (e d) (f d)) SN) (e s) (f s)):ar G (.loop c) SN env σ:=by
 refine A.loop (α:=Nat×S) (λa=>e a.2) (λa=>f a.2) (λa=>iter F a.1 a.2=some r) (λa=>a.1) (k,WD) q m ?_;rintro⟨b,s⟩ h;cases b with
 |zero=>cases h
 |succ b=>
  refine(n (iter F b) s h).mono ?_;intro o j i g;cases o with
  |normal=>
   obtain⟨d,p,l⟩:=g;exact⟨(b,d),p,by show b<b+1;omega,l⟩
  |_=>exact g
theorem CJ{I:a2}{b:Nat}:∀{e:List U} {o:Nat} {x:U},gy I b e o->x∈e->∃c,aN I x c
 |[],_,_,_,h=>by simp at h
 |y::r,o,x,a,h=>by
  simp only[gy]at a;rcases List.mem_cons.1 h with rfl|h
  .grind
  .exact CJ a.2 h
theorem Cd{I:a2}{b:Nat}:∀{xs:List (List U)} {o:Nat} {e:List U},gw I b xs o->e∈xs->∃o,gy I b e o
 |[],_,_,_,h=>by simp at h
 |y::r,o,x,a,h=>by
  simp only[gw]at a;rcases List.mem_cons.1 h with rfl|h
  .grind
  .exact Cd a.2 h
def CW{I:a2}:∀{e:List U} {vs:c4} {x:U},bX I e vs->x∈e->∃a,aN I x a
 |[],_,_,_,h=>by simp at h
 |y::r,vs,x,b,h=>by
  simp only[bX]at b;obtain⟨a,f,_,d,c⟩:=b;rcases List.mem_cons.1 h with rfl|h
  .exact⟨a,d⟩
  .exact CW c h
def avK{I:a2}:∀(n:Nat) (f:Bool) (xs:List (List U)) (v:Value),aN I (.aL f xs) v->yj n xs
 |0,f,xs,v,h=>by
  simp only[aN]at h;obtain⟨m,c,_,b,a,_⟩:=h;exact Nat.le_trans b a
 |n+1,f,xs,v,h=>by
  simp only[aN]at h;obtain⟨m,c,_,b,a,_,k⟩:=h;refine⟨Nat.le_trans b a,λt d q e j=>?_⟩;rcases k with rfl|⟨s,o,_,g⟩
  .simp at d
  .obtain⟨r,i⟩:=Cd g d;obtain⟨p,l⟩:=CJ i j;exact avK n q e p l
variable {I:a2}{f:Bool}{xs:List (List U)}
def av0{β:Nat->Value}{v:Value}(h:az I β (.aL f xs) v):ic xs:=λa=>avK a f xs v (by simpa only[az]using h)
def axe{β:Nat->Value}:∀{cs:List U} {vs:c4} {i:Nat},bx I β cs vs->cs[i]?=some (.aL f xs)->ic xs:=λh b=>by
 obtain⟨c,_,a⟩:=xY h b;exact av0 a
variable {bK:Bool}
theorem Nr{cx:c2}{β:Nat->Value}{σ:W}{w:World}(e:bG G cx I β σ w){d:Nat}{T sz k:Nat}(h:σ.get d=some (.slice T sz xs k bK)){v:Value}(b:az I β (.own d) v):ic xs:=by
 obtain⟨r,c,_,f,g⟩:=Ct e h b;intro a;cases a with
 |zero=>exact Nat.le_trans f g
 |succ a=>
  refine⟨Nat.le_trans f g,λp i q j l=>?_⟩;simp only[az]at b;have:=e.b5 d _ h;simp only[bb]at this;rcases this with u|⟨_,rfl,_⟩|⟨t,aR,s,_,_,_,_,_,n,_⟩
  .grind
  .simp at i
  .obtain⟨o,m⟩:=CW n (List.mem_flatten.2 ⟨p,i,l⟩);exact avK a q j o m
def auX(t:Nat)(h:env.find t=some (.aL f xs))(k:ic xs->ar G c SN env σ):ar G c SN env σ:=by
 refine avl λj g m i=>?_;obtain⟨I,n,l,a,e,d⟩:=i;have b:=a t;rw[avd h]at b;exact(k (av0 b)).use j g m ⟨I,n,l,a,e,d⟩
def avp{T sz k:Nat}{d:Nat}(t:Nat)(f:env.find t=some (.own d))(h:σ.get d=some (.slice T sz xs k bK))(k:ic xs->ar G c SN env σ):ar G c SN env σ:=by
 refine avl λm j n l=>?_;obtain⟨I,o,e,a,i,g⟩:=l;have b:=a t;rw[avd f]at b;exact(k (Nr e h b)).use m j n ⟨I,o,e,a,i,g⟩
def ave{T d:Nat}{cs:List U}(t i:Nat)(g:env.find t=some (.ptr d 0))(h:σ.get d=some (.cells T cs))(hi:cs[i]?=some (.aL f xs))(k:ic xs->ar G c SN env σ):ar G c SN env σ:=by
 refine avl λq o r p=>?_;obtain⟨I,s,e,b,m,j⟩:=p;have a:=b t;rw[avd g]at a;simp only[az]at a;obtain⟨v,l,_⟩:=a;obtain⟨u,_,_,n,_⟩:=bG.box e h l;exact(k (axe n hi)).use q o r ⟨I,s,e,b,m,j⟩
def au4(cu:ah)(σ2:W)(h:ar G y SN cu σ2->ar G (.seq x y) SN env σ)(k:ar G y SN cu σ2):ar G (.seq x y) SN env σ:=h k
end code
def fl(b:Bool):b=true\/b=false:=by cases b<;>simp
def gl{p q:Bool}(h:p=true):U.bool q=.bool (p&&q):=by rw[h];rfl
def gP{p q:Bool}(h:p=false):U.bool false=.bool (p&&q):=by rw[h];rfl
def k4{p q:Bool}(h:p=true):U.bool true=.bool (p||q):=by rw[h];rfl
def iQ{p q:Bool}(h:p=false):U.bool q=.bool (p||q):=by rw[h];rfl
def be{p q:Bool}(h:p=q):U.bool p=.bool q:=by rw[h]
section
variable {P:Program}
def ai{a b:U}(e:a=b):Hint P:=.to .rU a b e
def bh{sz:Nat}{xs:List (List U)}{i:Int}{row:List U}(a:mP sz xs i row):Hint P:=.ix sz xs i row a
def dX(d off:Nat){sz:Nat}{xs:List (List U)}{i:Int}{row:List U}(a:mP sz xs i row):Hint P:=.lo d sz xs i off row a
def hq(d:Nat){sz:Nat}{xs:List (List U)}{i:Int}{off:Nat}{ca:List U}{a:List (List U)}(b:uo sz xs i off ca a){k:Nat}(c:(k:Int)<=i):Hint P:=.so d sz xs i off ca a b k c
def a1{f:FuncId}{σs:W}{a:List U}{r:U}(b:bY P f σs a r)(c:bB P f):Hint P:=.ro 0 f σs a r b c
def Gm(c:Nat){f:FuncId}{σs:W}{a:List U}{r:U}(b:bY P f σs a r)(d:bB P f):Hint P:=.ro c f σs a r b d
def hI{f:FuncId}{a b:List U}{r:U}(c:bY P f [] (b++a) r)(d:bB P f):Hint P:=.rf f a b r c d
def bA(d:cg){f:FuncId}{a:List U}{r:U}(b:bY P f [] a r)(c:bB P f):Hint P:=.le d f a r b c
def l4{E:Nat}{k:IntKind}{bs:List (U×U)}{n:Int}{a:U}{b:Bool}(c:uh P E k bs n a b):Hint P:=.lk E k bs n a b c
def l5{k:IntKind}{bs:List (U×U)}{n:Int}{v:U}{a:List (U×U)}(b:q2 k bs n v a):Hint P:=.jq k bs n v a b
def kT{sz:Nat}{xs c:List (List U)}{a b:Int}(d:mS sz xs a b c):Hint P:=.s3 sz xs a b c d
def GN{k:IntKind}{bs:List (U×U)}{n:Int}(a:uj k bs n):Hint P:=.lm k bs n a
def QG(h news:cg){f:FuncId}{b:List U}{r:U}{σ2:W}(d:cI P f [] b (λa c=>a=r/\c=σ2))(e:bB P f)(g:nX σ2):Hint P:=.dl h news f b r σ2 d e g
def cS(news:cg){f:FuncId}{cb:W}{b:List U}{r:U}{σ2:W}(d:cI P f cb b (λa c=>a=r/\c=σ2))(e:bB P f):Hint P:=.iy news f cb b r σ2 d e
def e9(d2:Nat){sz bytes:Nat}{xs a b:List (List U)}(c:pe sz bytes xs a b):Hint P:=.ap d2 sz bytes xs a b c
def eZ{sz:Nat}{xs:List (List U)}{a b:Int}{c:List (List U)}(d:mS sz xs a b c):Hint P:=.sl sz xs a b c d
end
theorem cU{α:Type}{l:List α}{j:Nat}{x:α}(h:l[j]?=some x):decide ((j:Int)<(l.length:Int))=true:=by grind
def cT{α:Type}{l:List α}{j:Nat}(h:l.length<=j):decide ((j:Int)<(l.length:Int))=false:=decide_eq_false (by omega)
variable {h i:Int}
def QT(a:i<h+1):decide (i<=h)=true:=decide_eq_true (by omega)
def lG(a:h<=i):decide (i<h)=false:=decide_eq_false (by omega)
def QF(a:h+1<=i):decide (i<=h)=false:=decide_eq_false (by omega)
def vl{α:Type}(e:fx α){l m:List α}{a:Int}(h:h5 l a (l.length:Int)=some m):mS e.sz (ag e l) a ((ag e l).length:Int) (ag e m):=by rw[g9];exact sl e h
def ue(P:Program)(T:Nat):List (Nat×Nat)->Nat->Prop
 |[],_=>True
 |(off,_)::r,n=>rO P T n off/\ue P T r (n+1)
def ue.get{P:Program}{T:Nat}:∀{c1:List (Nat×Nat)} {n f off sz:Nat},ue P T c1 n->c1[f]?=some (off,sz)->rO P T (n+f) off
 |[],_,_,_,_,_,h=>by simp at h
 |(o,s)::r,n,0,off,sz,u,h=>by simp at h;obtain⟨rfl,rfl⟩:=h;exact u.1
 |(o,s)::r,n,f+1,off,sz,u,h=>by
  have:=ue.get (f:=f) (off:=off) (sz:=sz) u.2 (by simpa using h)
  rwa [Nat.add_right_comm,Nat.add_assoc]at this
def tU(P:Program)(T:Nat):List (Nat×Nat)->ja->Nat->Prop
 |(off,b)::r,a::s,n=>pt P T n off b a/\tU P T r s (n+1)
 |_,_,_=>True
def tU.get{P:Program}{T:Nat}:∀{c1:List (Nat×Nat)} {D:ja} {n f off sz:Nat} {b9:Bool},tU P T c1 D n->c1[f]?=some (off,sz)->D[f]?=some b9->pt P T (n+f) off sz b9
 |[],_,_,_,_,_,_,_,h,_=>by simp at h
 |_::_,[],_,_,_,_,_,_,_,h=>by simp at h
 |(o,s)::r,g::D,n,0,off,sz,b9,F,h,u=>by simp at h u;obtain⟨rfl,rfl⟩:=h;subst u;exact F.1
 |(o,s)::r,g::D,n,f+1,off,sz,b9,F,h,u=>by
  have:=tU.get (f:=f) (off:=off) (sz:=sz) (b9:=b9) F.2 (by simpa using h) (by simpa using u)
  rwa [Nat.add_right_comm,Nat.add_assoc]at this
def Sh{P:Program}{T:Nat}{c:c4}{a:List (Nat×Nat)}{b:ja}(i:n2 P T c a)(d:ue P T a 0)(g:tU P T a b 0):g6 P T (.struct c a b):=
 ⟨i,λf j k h=>by have:=d.get h;rwa [Nat.zero_add]at this,λf j k l h e=>by have:=g.get h e;rwa [Nat.zero_add]at this⟩
def av6{P:Program}{f:FuncId}{eS σ2 σ3:W}{args:List U}{r r':U}(bK:cg)(h:cI P f eS args (λa b=>a=r/\b=σ2))(s:fG σ3.ids (σ2.freeze bK) r=some r')(v:(σ2.freeze bK).at σ3.ids=some σ3):
  cI P f eS args (λa b=>a=r'/\b=σ3):=λw B I C A y g=>Calls.mono (h w B I C A y g) λ_ _ ⟨d,z,E,b,D,e,⟨k,l⟩,i,j⟩=>by
 subst k l;obtain⟨u,bA,c⟩:=j.BN bK;refine⟨d,z,r',σ3,u,e,⟨rfl,rfl⟩,(kB s).rep c d (xW bA (en.refl e) _ _ i),c.sub λx o t=>?_⟩;obtain⟨p,m,n,q⟩:=k0 σ3 x o t;rw[<-n,<-q];exact(avg v).1.mem p m
def hA.at{P:Program}{f:FuncId}{eS σ2:W}{args:List U}{r:U}(l:List (Nat×Nat))(h:cI P f eS args (λa u=>a=r/\u=σ2)):
  cI P f (eS.ct (jy l)) (iI (jy l) args) (λa u=>a=r.ct (jy l)/\u=σ2.ct (jy l)):=
 (h.at l).mono λa s F=>by
  obtain⟨Q,WD,⟨rfl,rfl⟩,O,D⟩:=F;exact⟨O,D⟩
def mI(bo:ef)(env:ah)(σ:W):ResultVar->Option U
 |.tmp t=>env.find t
 |.cell a b=>match env.find a with
  |some (.ptr d 0)=>(match σ.get d with
   |some (.cells _ cs)=>(match bo.get b with
    |some i=>bif Nat.beq cs.length i.sz&&(i.b9||Nat.blt 0 i.sz)then iE i.b9 i.sz cs else none
    |none=>none)
   |_=>none)
  |_=>none
def vm(bo:ef)(env:ah)(σ:W):List ResultVar->Option (List U)
 |[]=>some []
 |a::r=>match mI bo env σ a with|none=>none|some x=>match vm bo env σ r with|none=>none|some xs=>some (x::xs)
def Au(bo:ef)(env:ah)(σ:W):List ResultVar->Option U
 |[]=>some (.bO [])
 |[a]=>mI bo env σ a
 |[a,b]=>match mI bo env σ a with|none=>none|some x=>match mI bo env σ b with|none=>none|some y=>some (.bO [x,y])
 |[a,b,c]=>match mI bo env σ a with|none=>none|some x=>match mI bo env σ b with|none=>none|some y=>match mI bo env σ c with|none=>none|some z=>some (.bO [x,y,z])
 |a::b::c::d::r=>match vm bo env σ (a::b::c::d::r)with|none=>none|some xs=>some (.bO xs)
def nG{P:Program}{N:Nat}{ids:cg}{bo:ef}(g:fI P bo){env:ah}{σ:W}{v:ResultVar}{a:U}(h:mI bo env σ v=some a):i4 ⟨P,N,ids⟩ env σ v a:=by
 cases v with
 |tmp t=>exact yl.tmp h
 |cell p k=>
  simp only[mI]at h;split at h
  .rename_i m c;split at h
   .rename_i l j e;split at h
    .rename_i i f;generalize b:(Nat.beq j.length i.sz&&_)=d at h;cases d with
     |false=>cases h
     |true=>
      simp only[cond_true]at h;rw[Bool.and_eq_true]at b;exact yl.cell (fL.get g.tys f).ty (avd c) e b.1 b.2 h
    .cases h
   .cases h
  .cases h
def E4{P:Program}{N:Nat}{ids:cg}{bo:ef}(b:fI P bo){env:ah}{σ:W}:∀{l:List ResultVar} {xs:List U},vm bo env σ l=some xs->od ⟨P,N,ids⟩ env σ l xs
 |[],xs,h=>by cases h;exact .nil
 |a::r,xs,h=>by
  simp only[vm]at h;split at h
  .cases h
  .rename_i x c;split at h
   .cases h
   .rename_i e d;cases h;exact .cons (nG b c) (E4 b d)
def LI{P:Program}{N:Nat}{ids:cg}{bo:ef}(b:fI P bo){env:ah}{σ:W}{l:List ResultVar}{a:U}(h:Au bo env σ l=some a):j5 ⟨P,N,ids⟩ env σ l a:=by
 unfold Au at h;split at h
 .cases h;exact .zero
 .exact .one (nG b h)
 .split at h
  .cases h
  .rename_i x c;split at h
   .cases h
   .rename_i y d;cases h;exact .two (nG b c) (nG b d)
 .split at h
  .cases h
  .rename_i x c;split at h
   .cases h
   .rename_i y d;split at h
    .cases h
    .rename_i g f;cases h;exact .three (nG b c) (nG b d) (nG b f)
 .split at h
  .cases h
  .rename_i xs e;cases h;exact .more (E4 b e) (by simp)
def Av(bo:ef)(ids:cg)(d:List hR)(c:cg)(l:List ResultVar)(env:ah)(σ:W):Option (U×W):=match n3 ids d env σ with
 |none=>none
 |some (e,s)=>match Au bo e s l with
  |none=>none
  |some a=>match fG c s a with
   |none=>none
   |some b=>match s.at c with
    |none=>none
    |some f=>some (b,f)
def h4(G:bQ)(fn:Func)(c:U->W->Prop):Exit->ah->W->Prop:=λd env σ=>∃a b,bJ G env σ a b/\EX G fn c d a b
variable {fn:Func}
def auW{P:Program}{N:Nat}{ids:cg}{bo:ef}(j:fI P bo){env:ah}{σ σ2:W}{R:U}{e:Exit}(g:List hR)(l:(match e with|.ret|.normal=>true|_=>false)=true)(h:Av bo ids g σ2.ids fn.results.toList env σ=some (R,σ2)):
  h4 ⟨P,N,ids⟩ fn (λa b=>a=R/\b=σ2) e env σ:=by
 simp only[Av]at h;split at h
 .cases h
 .rename_i d c m;split at h
  .cases h
  .rename_i a k;split at h
   .cases h
   .rename_i o f;split at h
    .cases h
    .rename_i q i;cases h;refine⟨d,c,qP m,?_⟩;have n:∃bK x r b,j5 ⟨P,N,ids⟩ d (c.freeze bK) fn.results.toList x/\fq (c.freeze bK) x r/\(∀p∈b,(c.freeze bK).get p.1=some p.2)/\(r=R/\b=σ2):=by
      refine⟨[],a,R,σ2,?_,?_,?_,rfl,rfl⟩
      .rw[avu];exact LI j k
      .rw[avu];exact kB f
      .rw[avu];exact(avg i).1.mem
     cases e<;>first|exact n|cases l
def bT{P:Program}{f:FuncId}{c:Code}{eS:W}{args:List U}{a:U->W->Prop}(b:P.funcs[f]?=some fn)(d:fn.body=some c)(e:Nat.ble args.length fn.ntmps=true)
  (h:ar ⟨P,fn.ntmps,eS.ids⟩ c (h4 ⟨P,fn.ntmps,eS.ids⟩ fn a) (qN 0 args) eS):cI P f eS args a:=
 cI.enter b d (Nat.le_of_ble_eq_true e) λ_=>avw h
theorem LJ{α:Type}{a b l:List α}(h:dP a b=some l):l=a++b:=by
 unfold dP at h
 grind
theorem Jh{P:Program}{f:FuncId}{cB E sz:Nat}{xs i:List (List U)}(u:∀n c w,Calls P f #[.slice none n c] w λe w'=>e=.returned (.slice none 0 0)/\w'=w)
    (z:xs≠[]->cI P f [] [.aL false xs] (λa g=>a=.own cB/\g=[(cB,.slice E sz i 0 false)])) (q:xs=[]->cI P f [] [.gq] (λa g=>a=.own cB/\g=[(cB,.slice E sz i 0 false)]))
    (v:xs=[]->i=[]):cI P f [] [.aL false xs] (λa g=>a=.own cB/\g=[(cB,.slice E sz i 0 false)]):=by
  intro r w I m A j k;by_cases b:xs=[]
  · have d:=v b
    subst b d;simp only[bx,az,aN]at k;obtain⟨F,B,rfl,⟨a,c,rfl,_,s,_,_⟩,rfl⟩:=k;cases a with
    |some p=>exact q rfl r w I m _ j (by simp only[bx,az,aN];exact⟨_,_,rfl,⟨_,_,rfl,s⟩,rfl⟩)
    |none=>
      refine Calls.mono (u _ _ w) ?_;rintro e w' ⟨rfl,rfl⟩;refine⟨_,rfl,.own cB,_,I,λl=>if l=cB then .slice none 0 0 else m l,⟨rfl,rfl⟩,by simp[az,fA],?_⟩
      exact{j with
        b5:=λx o h=>by
          rw[auU]at h;split at h
          · rename_i e;subst e;injection h with h;subst h
            simp only[bb,if_true]
            grind
          · simp[W.get]at h
        cA:=λx y b d C G q D=>by
          rw[auU]at b d;split at b
          · rename_i e;subst e
            split at d
            · omega
            · simp[W.get]at d
          · simp[W.get]at b
        keep:=λl t=>by simp[W.ids]at t}
  · exact z b r w I m A j k
def N6(SN:Exit->ah->W->Prop):Exit->ah->W->Prop
 |.goto _,_,_=>False
 |e,env,σ=>SN e env σ
def A.scope{G:bQ}{c:Code}{SN:Exit->ah->W->Prop}{env:ah}{σ:W}(h:ar G c (N6 SN) env σ):ar G (.scope c) SN env σ:=by
 refine avl λcx a w Q=>wp_scope_straight (wp_mono (ar.use h cx a w Q) ?_);rintro e X w' ⟨F,D,O,u⟩;cases e<;>first|exact⟨F,D,O,u⟩|exact u.elim
def A.label{G:bQ}{l:Nat}{SN:Exit->ah->W->Prop}{env:ah}{σ:W}(h:SN .normal env σ):ar G (.label l) SN env σ:=avl λ_ _ _ u=>wp_label ⟨env,σ,u,h⟩
end
end
section
set_option linter.all false
open Go Go.ChangeShapes Go.WideShapes Go.ChangeAt Go.RowKit
structure gV(P:Program)(T:Nat){α:Type}(enc:α->List U)(n:Nat):Prop where
 cells:P.cellsOf T=n
 read:∀(H:Type) (ej:TypeId×Value->H) (w:World) (cv:Nat) (eo:Nat->Bool) (Z:Bool) (fuel:Nat) (cs:c4) (x:DataW H×List MemPlace),
  DataW.trod ej P w cv eo Z fuel T cs=some x->∃a:α,bX (eu w) (enc a) cs
variable {P:Program}{T:Nat}{k:IntKind}
def LK(c:P.underlying T=some (.int k))(b:P.cellsOf T=1):gV P T (λn:Int=>[.int k n]) 1:=by
 refine⟨b,λg m p l o i fuel j q a=>?_⟩;cases fuel with
 |zero=>cases a
 |succ n=>
  unfold DataW.trod at a;rw[c]at a;split at a<;>first|(simp at a;done)|skip
  all_goals (rename_i d;cases d)
  rename_i h f;split at a
  .rename_i e;obtain⟨rfl,_⟩:=e
   exact⟨f,by simp[bX,aN]⟩
  .cases a
def KB(d:P.underlying T=some .bool)(c:P.cellsOf T=1):gV P T (λb:Bool=>[.bool b]) 1:=by
 refine⟨c,λf j l i k g fuel h m a=>?_⟩;cases fuel with
 |zero=>cases a
 |succ n=>
  unfold DataW.trod at a;rw[d]at a;split at a<;>first|(simp at a;done)|skip
  all_goals (rename_i e;cases e)
  rename_i b;exact⟨b,by simp[bX,aN]⟩
def ws{α β:Type}{f:α->Option β}:∀{l:List α} {r:List β},l.mapM f=some r->r.length=l.length/\∀(i:Nat) (a:α),l[i]?=some a->∃b:β,f a=some b/\r[i]?=some b
 |[],r,h=>by simp at h;subst h;exact⟨rfl,λi a c=>by simp at c⟩
 |x::l,r,h=>by
  rw[List.mapM_cons]at h;cases d:f x with
  |none=>rw[d]at h;cases h
  |some y=>
   rw[d]at h;cases e:l.mapM f with
   |none=>rw[e]at h;cases h
   |some k=>
    rw[e]at h;cases h;obtain⟨j,g⟩:=ws e;refine⟨by simp[j],λi a c=>?_⟩;cases i with
    |zero=>simp at c;subst c;exact⟨y,d,rfl⟩
    |succ i=>simpa using g i a (by simpa using c)
theorem BF{α β:Type}{p:Nat->β->Prop}:∀(n:Nat),(∀i,i<n->∃b,p i b)->∃l:List β,l.length=n/\∀i b,l[i]?=some b->p i b
 |0,_=>⟨[],rfl,λi b a=>by simp at a⟩
 |n+1,a=>by
  obtain⟨l,c,e⟩:=BF (α:=α) n (λi d=>a i (by omega));obtain⟨b,f⟩:=a n (by omega);refine⟨l++[b],by simp[c],λi h g=>?_⟩;by_cases d:i<n
  .grind
  .grind
variable {a:Addr}
theorem C8{w:World}{f:Nat}{n:Nat}{cs:c4}(b:w.cells? f a n=some cs):cs.length=n/\∀i v,cs[i]?=some v->w.cell? (a.add i)=some v:=by
 unfold World.cells? at b;split at b
 .obtain⟨g,d⟩:=ws b;have c:cs.length=n:=by simpa using g
  refine⟨c,λi v e=>?_⟩;have h:i<n:=by rw[<-c];exact(List.getElem?_eq_some_iff.1 e).1
  obtain⟨l,j,k⟩:=d i i (by simp[h])
  grind
 .cases b
def Bp{α:Type}{I:a2}{b sz:Nat}{enc:α->List U}:∀(l:List α) (o:Nat),(∀r,(enc r).length=sz)->(∀i a,l[i]?=some a->gy I b (enc a) (o+i*sz))->gw I b (l.map enc) o
 |[],_,_,_=>trivial
 |x::r,o,c,h=>by
  simp only[List.map_cons,gw];refine⟨by simpa using h 0 x rfl,?_⟩;rw[c x];refine Bp r (o+sz) c λi a d=>?_;have:=h (i+1) a (by simpa using d)
  rwa [Nat.add_mul,Nat.one_mul,Nat.add_comm (i*sz),<-Nat.add_assoc]at this
def DS(b:a.spot=none)(i:Nat):a.add i=⟨a.block,a.off+i,none⟩:=by
 obtain⟨c,d,e⟩:=a;simp only at b;subst b;exact g2 c d i
variable {E:Nat}{α:Type}
theorem B6{e:fx α}(N:P.underlying T=some (.slice E))(t:P.cellsOf T=1)(v:gV P E e.enc e.sz)(W:0<e.sz):gV P T (λl:List α=>[.aL false (ag e l)]) 1:=by
 refine⟨t,λC z f j A y fuel Z ab b=>?_⟩;cases fuel with
 |zero=>cases b
 |succ n=>
  unfold DataW.trod at b;rw[N]at b;split at b<;>first|(simp at b;done)|skip
  all_goals (rename_i Q;try cases Q)
  .refine⟨[],?_⟩;simp only[bX,aN,ag,List.map_nil];exact⟨_,_,rfl,⟨none,0,rfl,by simp,by simp[maxLen],by simp,by simp⟩,rfl⟩
  .rename_i a h aR;split at b
   .rename_i o;obtain⟨_,O,D⟩:=o;dsimp only at b;generalize S:(List.range h).mapM (λc=>(f.cells? j (a.add (c*P.cellsOf E)) (P.cellsOf E)).bind (DataW.trod z P f j A y n E))=I at b;cases I with
    |none=>cases b
    |some K=>
     obtain⟨G,H⟩:=ws S;have X:K.length=h:=by simpa using G
     have B:∀c,c<h->∃g:α,∃d:c4,bX (eu f) (e.enc g) d/\∀k m,d[k]?=some m->f.cell? ((a.add (c*P.cellsOf E)).add k)=some m:=λc R=>by
      obtain⟨U,i,_⟩:=H c c (by simp[R]);cases u:f.cells? j (a.add (c*P.cellsOf E)) (P.cellsOf E)with
      |none=>rw[u]at i;cases i
      |some d=>
       rw[u]at i;obtain⟨g,o⟩:=v.read C z f j A y n d U i;exact⟨g,d,o,(C8 u).2⟩
     obtain⟨l,x,J⟩:=BF (α:=Unit) h B;refine⟨l,?_⟩;simp only[bX,aN];refine⟨_,_,rfl,⟨some a,aR,by rw[g9,x],by rw[g9,x];exact O,D,by simp,?_⟩,rfl⟩;by_cases Y:h=0
     .left;have:l=[]:=List.eq_nil_of_length_eq_zero (by omega);subst this;rfl
     .right;have r:a.spot=none:=by
       obtain⟨g,d,q,p⟩:=B 0 (by omega);have hJ:d.length=e.sz:=by rw[i6 _ _ q,e.hz]
       cases w:d with
       |nil=>rw[w]at hJ;simp at hJ;omega
       |cons L V=>
        have:=p 0 L (by rw[w];rfl);simp only[Nat.zero_mul,Addr.add,if_true]at this;simp only[World.cell?]at this;split at this
        .simp_all
        .grind
      refine⟨a.block,a.off,?_,?_⟩
      .obtain⟨g,aa,s⟩:=a;simp only at r;subst r;rfl
      .refine Bp l a.off e.hz λc M t=>?_;obtain⟨d,q,p⟩:=J c M t;refine tr _ _ d q λk m F=>?_;have:=p k m F;rw[v.cells,DS r,g2]at this;exact this
   .cases b
structure vn(P:Program)(fs:List (Nat×Nat))(off:Nat){β:Type}(enc:β->List U)(n:Nat):Prop where
 read:∀(H:Type) (ej:TypeId×Value->H) (w:World) (cv:Nat) (eo:Nat->Bool) (Z:Bool) (fuel:Nat) (cs:c4) (x:List (DataW H×List MemPlace)),
  (fs.mapM λf=>DataW.trod ej P w cv eo Z fuel f.1 ((cs.drop f.2).take (P.cellsOf f.1)))=some x->∃b:β,bX (eu w) (enc b) ((cs.drop off).take n)
def tK{off:Nat}:vn P [] off (λ_:Unit=>[]) 0:=⟨λ_ _ _ _ _ _ _ a _ _=>⟨(),by simp[bX]⟩⟩
variable {e1:α->List U}{β:Type}{e2:β->List U}
def jS{off n m:Nat}{fs:List (Nat×Nat)}(l:gV P T e1 n)(q:vn P fs (off+n) e2 m):vn P ((T,off)::fs) off (λp:α×β=>e1 p.1++e2 p.2) (n+m):=by
 refine⟨λt j o i k g fuel h v b=>?_⟩;rw[List.mapM_cons]at b;cases c:DataW.trod j P o i k g fuel T ((h.drop off).take (P.cellsOf T))with
 |none=>simp only[c]at b;cases b
 |some y=>
  simp only[c]at b;cases e:(fs.mapM λd=>DataW.trod j P o i k g fuel d.1 ((h.drop d.2).take (P.cellsOf d.1)))with
  |none=>rw[e]at b;cases b
  |some u=>
   obtain⟨a,f⟩:=l.read _ _ _ _ _ _ _ _ _ c;obtain⟨s,r⟩:=q.read _ _ _ _ _ _ _ _ _ e;refine⟨(a,s),?_⟩;rw[l.cells]at f;rw[hC];refine⟨_,_,?_,f,r⟩;rw[<-List.drop_drop,<-List.take_add]
variable {fs:Array Field}
def s5{n:Nat}{l:List (Nat×Nat)}{enc:β->List U}(v:P.underlying T=some (.struct fs))(s:fs.toList.map (λf=>(f.type,f.offset))=l)(t:P.cellsOf T=n)(q:vn P l 0 enc n):gV P T enc n:=by
 refine⟨t,λy g i e h d fuel b x c=>?_⟩;cases fuel with
 |zero=>cases c
 |succ m=>
  unfold DataW.trod at c;rw[v]at c;have a:(if b.length=P.cellsOf T then(fs.toList.mapM λf=>DataW.trod g P i e h d m f.type ((b.drop f.offset).take (P.cellsOf f.type))).map λk=>(DataW.agg (k.map (·.1)),k.flatMap (·.2))else none)=some x:=by omega
  split at a
  .rename_i z;generalize w:(fs.toList.mapM λf=>DataW.trod g P i e h d m f.type ((b.drop f.offset).take (P.cellsOf f.type)))=p at a;cases p with
   |none=>cases a
   |some o=>
    have r:(l.mapM λf=>DataW.trod g P i e h d m f.1 ((b.drop f.2).take (P.cellsOf f.1)))=some o:=by
     rw[<-s,List.mapM_map];exact w
    obtain⟨u,j⟩:=q.read _ _ _ _ _ _ _ _ _ r;refine⟨u,?_⟩;rw[List.drop_zero,List.take_of_length_le (by omega)]at j;exact j
  .cases a
def gV.oA{n:Nat}(h:gV P T e1 n)(f:α->β)(D:∀a,e2 (f a)=e1 a):gV P T e2 n:=
 ⟨h.cells,λH ej w cv eo Z fuel cs x u=>by obtain⟨a,F⟩:=h.read H ej w cv eo Z fuel cs x u;exact⟨f a,by rw[D];exact F⟩⟩
structure uf(P:Program)(T:Nat){α:Type}(bt:α->U)(ok:α->Prop):Prop where
 read:∀(H:Type) (ej:TypeId×Value->H) (w:World) (cv:Nat) (v:Value) (d:DataW H) (ps:List MemPlace),Value.okWide P w .any cv T v->DataW.Trod ej P w 0 (λ_=>true) true T v d ps->∃a:α,ok a/\aN (eu w) (bt a) v
def E5{n:Nat}{enc:α->List U}(g:P.underlying T=some (.struct fs))(d:gV P T enc n):uf P T (λa=>.agg (enc a)) (λ_=>True):=by
 refine⟨λh k o i m j l b c=>?_⟩;obtain⟨fuel,c⟩:=c;obtain⟨a,e⟩:=d.read _ _ _ _ _ _ _ _ _ c;unfold Value.okWide at b;rw[g]at b;obtain⟨f,rfl,_⟩:=b;exact⟨a,trivial,by simp only[aN];exact⟨f,rfl,e⟩⟩
theorem LL{bt:α->U}(f:gV P T (λa=>[bt a]) 1)(g:∀w c v,Value.okWide P w .any c T v->v.cells=#[v]):uf P T bt (λ_=>True):=by
 refine⟨λh j w c v i k e b=>?_⟩;obtain⟨fuel,b⟩:=b;obtain⟨a,d⟩:=f.read _ _ _ _ _ _ _ _ _ b;rw[g w c v e]at d;simp only[bX]at d
 grind
def LM(c:P.underlying T=some (.int k))(w:World)(b:Nat)(v:Value)(a:Value.okWide P w .any b T v):v.cells=#[v]:=by
 simp only[Value.okWide,c,Cell.okWide,Cell.ok]at a;cases v<;>first|rfl|exact a.elim
def B7(c:P.underlying T=some (.slice E))(w:World)(b:Nat)(v:Value)(a:Value.okWide P w .any b T v):v.cells=#[v]:=by
 simp only[Value.okWide,c,Cell.okWide,Cell.ok]at a;cases v<;>first|rfl|(simp at a;done)
def Hv{H:Type}{enc:TypeId×Value->H}{P:Program}(j:laidOutB P=true){c W':World}{k:Nat->Bool}(f:Below c.heap.size c W'):∀{ts:cg} {vs:c4} {a:List (DataW H)} {ps:List MemPlace},(∀t∈ts,P.readableRec t=true/\t<P.types.size)->
  DataW.TrodAll enc P c 0 (λ_=>true) true ts vs a ps->(∀x∈ps,x.block<c.heap.size)->(∀x∈ps,k x.block=true)->DataW.TrodAll enc P W' 0 k true ts vs a ps
 |[],vs,a,ps,_,h,_,_=>by cases vs<;>cases a<;>exact h
 |t::ts,vs,a,ps,e,h,g,i=>by
  cases vs with
  |nil=>cases a<;>exact h.elim
  |cons v vs=>
   cases a with
   |nil=>exact h.elim
   |cons d a=>
    obtain⟨p,q,m,n,rfl⟩:=h;have l:=e t (by simp)
    exact⟨p,q,WideElems.Trod_stays j l.1 l.2 m (λx b=>f.same (g x (by simp[b]))) (λx b=>i x (by simp[b])),
     Hv j f (λt o=>e t (by simp[o])) n (λx b=>g x (by simp[b])) (λx b=>i x (by simp[b])),rfl⟩
theorem Ji{H:Type}{enc:TypeId×Value->H}{f pq:Nat}{c:Func}{s:ChangeSpec}(T:laidOutB P=true)(C:c.resultTypes=#[pq])(w:P.underlying pq=some .bool)(A:s.vars=[])
    (Z:∀t∈c.params.toList,P.readableRec t=true/\t<P.types.size) {b:World} {args:eN} (M:∃l:List U,bX (eu b) l args.toList/\bY P f [] l (.bool true))
    (Y:∀a:List (DataW H),a.length=c.params.size->(s.fn H a).results=[.lit (.bool true)]/\(s.fn H a).args=a/\(s.fn H a).vars=[])
    (aa:Nat) (a ab:List (DataW H)) (S:List MemPlace) (am:∀(j:Nat) t v,c.params[j]?=some t->args[j]?=some v->Value.okWide P b .any aa t v)
    (x:DataW.Whole enc P c.params.toList s.vars false b args.toList a ab S) :
    Calls P f args b λe W'=>∃v,e=.returned v/\s.post enc P c false true false false b args v W':=by
  have r:=x;obtain⟨i,aA,V,z,rfl,ao,aw⟩:=x;rw[A]at z;obtain⟨rfl,rfl⟩:=trodVars_none z;simp only[List.append_nil]at r;obtain⟨l,G,X⟩:=M
  have O:bG ⟨P,0,[]⟩ (h0 (eu b) (λ_=>.nilFunc) [] b) (eu b) (λ_=>.nilFunc) [] b:=
    {good:=qz,eD:=qn,fK:=bM.refl _,fB:=λ_ _ _ _=>rfl,frame:=λ_ _ _=>rfl,size:=Nat.le_refl _,tape:=rfl,os:=rfl,output:=rfl,drawn:=Nat.le_refl _,
     b5:=λE az g=>by simp[W.get]at g,cA:=λE ar g=>by simp[W.get]at g,keep:=λE g=>by simp at g}
  have y:=X _ b (eu b) (λ_=>.nilFunc) args.toList O G.Ar;rw[Array.toArray_toList]at y;refine Calls.mono y ?_;rintro e W' ⟨v,rfl,aB,ag,af,aC,⟨rfl,rfl⟩,Q,n⟩;have I:=nD Q;subst I;have B:Below b.heap.size b W':=⟨n.os,n.tape,n.output,n.size,λk ae=>n.frame k ae (by simp[h0,mj,W.ids])⟩;have N:a.length=c.params.size:=by
    have ax:∀(o:cg) (p:c4) (a:List (DataW H)) (u:List MemPlace),DataW.TrodAll enc P b 0 (λ_=>true) true o p a u->a.length=o.length:=by
      intro o;induction o with
      |nil=>intro p a u h;cases p<;>cases a<;>first|rfl|exact h.elim
      |cons t o F=>
        intro p a u h;cases p<;>cases a<;>first|exact h.elim|skip
        obtain⟨_,_,_,J,_⟩:=h;simp[F _ _ _ J]
    grind
  obtain⟨e1,e2,L⟩:=Y a N;have K:∀m∈i,m.block<b.heap.size:=λm q=>by simpa using r.lt m q
  have an:∀(D:Nat) (d:Nat->Bool) (g:Bool),DataW.TrodAll enc P W' D d g c.resultTypes.toList ((Value.bool true).resultList c.resultTypes.size) [DataW.lit (.bool true)] []:=λD d g=>by
    rw[C];exact trodAll_mk1 (shut_bool w true)
  have ak:∀d:Nat->Bool,(∀m∈i,d m.block=true)->DataW.TrodAll enc P W' 0 d true c.params.toList args.toList a i:=λd R=>Hv T B Z V K R;have ai:=ok_one (P:=P) (W':=W') C rfl (okWide_bool_mk w true);have aq:∀d:Nat->Bool,DataW.TrodVars enc P W' d s.vars (s.fn H a).vars []:=λd=>by rw[A,L];rfl
  refine⟨_,rfl,a,[],i,[],i,[],by simpa using r,?_,?_,?_,World.keptBut_mono (λm q=>⟨q,.inr (.inl q)⟩) (B.frame (·∈i)),λh=>by cases h⟩
  · grind
  · grind
  · grind
structure j6(P:Program)(T:Nat){α:Type}(enc:α->List U)(n:Nat)(bd:α->Prop):Prop where
 cells:P.cellsOf T=n
 read:∀(H:Type) (ej:TypeId×Value->H) (w:World) (cv:Nat) (eo:Nat->Bool) (Z:Bool) (fuel:Nat) (cs:c4) (x:DataW H×List MemPlace),
  DataW.trod ej P w cv eo Z fuel T cs=some x->(∀k∈x.1.weights P T,k<=reachBytes)->∃a:α,bd a/\bX (eu w) (enc a) cs
variable {P:Program}{T:Nat}{α:Type}
def gV.wide{enc:α->List U}{n:Nat}(h:gV P T enc n):j6 P T enc n (λ_=>True):=
 ⟨h.cells,λH ej w cv eo Z fuel cs x u _=>by obtain⟨a,D⟩:=h.read H ej w cv eo Z fuel cs x u;exact⟨a,trivial,D⟩⟩
def Hr{H:Type}{P:Program}{e:TypeId}:∀{l:List (DataW H)} {d:DataW H} {k:Nat},d∈l->k∈d.weights P e->k∈DataW.weightsAll P e l
 |c::l,d,k,a,hk=>by
  rw[DataW.weightsAll,List.mem_append];rcases List.mem_cons.1 a with rfl|a
  .exact .inl hk
  .exact .inr (Hr a hk)
theorem CK{E:Nat}{e:fx α}{x:α->Prop}(F:P.underlying T=some (.slice E))(i:P.cellsOf T=1)(y:j6 P E e.enc e.sz x)(ak:0<e.sz)(M:0<P.bytesOf E):j6 P T (λl:List α=>[.aL false (ag e l)]) 1 (λl=>l.length<=reachBytes/\∀a∈l,x a):=by
 refine⟨i,λH C h k D A fuel ao ar b m=>?_⟩;cases fuel with
 |zero=>cases b
 |succ n=>
  unfold DataW.trod at b;rw[F]at b;split at b<;>first|(simp at b;done)|skip
  all_goals (rename_i ab;try cases ab)
  .refine⟨[],⟨by simp,by simp⟩,?_⟩;simp only[bX,aN,ag,List.map_nil];exact⟨_,_,rfl,⟨none,0,rfl,by simp,by simp[maxLen],by simp,by simp⟩,rfl⟩
  .rename_i a g aR;split at b
   .rename_i q;obtain⟨_,aa,K⟩:=q;dsimp only at b;generalize ae:(List.range g).mapM (λc=>(h.cells? k (a.add (c*P.cellsOf E)) (P.cellsOf E)).bind (DataW.trod C P h k D A n E))=S at b;cases S with
    |none=>cases b
    |some Y=>
     obtain⟨N,O⟩:=ws ae;have X:Y.length=g:=by simpa using N
     rw[Option.bind_some,Option.map_eq_some_iff]at b;obtain⟨am,_,rfl⟩:=b;rw[DataW.weights,F]at m;simp only at m;have R:g<=reachBytes:=by
      have:=m _ (List.mem_cons_self ..);rw[List.length_map,X]at this;exact Nat.le_trans (Nat.le_trans (Nat.le_add_right _ _) (Nat.le_mul_of_pos_right _ M)) this
     have I:∀c,c<g->∃f:α,x f/\∃d:c4,bX (eu h) (e.enc f) d/\∀o p,d[o]?=some p->h.cell? ((a.add (c*P.cellsOf E)).add o)=some p:=λc G=>by
      obtain⟨J,j,V⟩:=O c c (by simp[G]);cases w:h.cells? k (a.add (c*P.cellsOf E)) (P.cellsOf E)with
      |none=>rw[w]at j;cases j
      |some d=>
       rw[w]at j;obtain⟨f,Q,q⟩:=y.read H C h k D A n d J j λaf W=>m af (List.mem_cons_of_mem _ (List.mem_append_left _ (Hr (List.mem_map.2 ⟨J,List.mem_of_getElem? V,rfl⟩) W)));exact⟨f,Q,d,q,(C8 w).2⟩
     obtain⟨l,u,U⟩:=BF (α:=Unit) g I;refine⟨l,⟨by rw[u];exact R,λB i=>?_⟩,?_⟩
     .obtain⟨c,G⟩:=List.getElem?_of_mem i
      grind
     simp only[bX,aN];refine⟨_,_,rfl,⟨some a,aR,by rw[g9,u],by rw[g9,u];exact aa,K,by simp,?_⟩,rfl⟩;by_cases an:g=0
     .left;have:l=[]:=List.eq_nil_of_length_eq_zero (by omega);subst this;rfl
     .right;have v:a.spot=none:=by
       obtain⟨f,_,d,t,r⟩:=I 0 (by omega);have hJ:d.length=e.sz:=by rw[i6 _ _ t,e.hz]
       cases z:d with
       |nil=>rw[z]at hJ;simp at hJ;omega
       |cons Z ai=>
        have:=r 0 Z (by rw[z];rfl);simp only[Nat.zero_mul,Addr.add,if_true]at this;simp only[World.cell?]at this;split at this
        .simp_all
        .grind
      refine⟨a.block,a.off,?_,?_⟩
      .obtain⟨f,aq,s⟩:=a;simp only at v;subst v;rfl
      .refine Bp l a.off e.hz λc B i=>?_;obtain⟨_,d,t,r⟩:=U c B i;refine tr _ _ d t λo p L=>?_;have:=r o p L;rw[y.cells,DS v,g2]at this;exact this
   .cases b
structure uW(P:Program)(fs:List (Nat×Nat))(off:Nat){β:Type}(enc:β->List U)(n:Nat)(bd:β->Prop):Prop where
 read:∀(H:Type) (ej:TypeId×Value->H) (w:World) (cv:Nat) (eo:Nat->Bool) (Z:Bool) (fuel:Nat) (cs:c4) (x:List (DataW H×List MemPlace)),
  (fs.mapM λf=>DataW.trod ej P w cv eo Z fuel f.1 ((cs.drop f.2).take (P.cellsOf f.1)))=some x->(∀k∈DataW.weightsEach P (fs.map (·.1)) (x.map (·.1)),k<=reachBytes)->∃b:β,bd b/\bX (eu w) (enc b) ((cs.drop off).take n)
def Jj{off:Nat}:uW P [] off (λ_:Unit=>[]) 0 (λ_=>True):=⟨λ_ _ _ _ _ _ _ a _ _ _=>⟨(),trivial,by simp[bX]⟩⟩
variable {TH:α->Prop}{e1:α->List U}{β:Type}{TK:β->Prop}{e2:β->List U}
def CL{off n m:Nat}{fs:List (Nat×Nat)}(q:j6 P T e1 n TH)(s:uW P fs (off+n) e2 m TK):uW P ((T,off)::fs) off (λp:α×β=>e1 p.1++e2 p.2) (n+m) (λp=>TH p.1/\TK p.2):=by
 refine⟨λH l r k o i fuel j A a f=>?_⟩;rw[List.mapM_cons]at a;cases d:DataW.trod l P r k o i fuel T ((j.drop off).take (P.cellsOf T))with
 |none=>simp only[d]at a;cases a
 |some y=>
  simp only[d]at a;cases b:(fs.mapM λe=>DataW.trod l P r k o i fuel e.1 ((j.drop e.2).take (P.cellsOf e.1)))with
  |none=>rw[b]at a;cases a
  |some t=>
   rw[b]at a;have a:y::t=A:=by simpa using a
   subst a;simp only[List.map_cons,DataW.weightsEach,List.mem_append]at f;obtain⟨x,w,h⟩:=q.read _ _ _ _ _ _ _ _ _ d λg c=>f g (.inl c);obtain⟨z,u,v⟩:=s.read _ _ _ _ _ _ _ _ _ b λg c=>f g (.inr c);refine⟨(x,z),⟨w,u⟩,?_⟩;rw[q.cells]at h;rw[hC];refine⟨_,_,?_,h,v⟩;rw[<-List.drop_drop,<-List.take_add]
def Iq{n:Nat}{fs:Array Field}{l:List (Nat×Nat)}{enc:β->List U}{p:β->Prop}(q:P.underlying T=some (.struct fs))(o:fs.toList.map (λf=>(f.type,f.offset))=l)(x:P.cellsOf T=n)(v:uW P l 0 enc n p):j6 P T enc n p:=by
 refine⟨x,λH g j e h d fuel b A c i=>?_⟩;cases fuel with
 |zero=>cases c
 |succ m=>
  unfold DataW.trod at c;rw[q]at c;have a:(if b.length=P.cellsOf T then(fs.toList.mapM λf=>DataW.trod g P j e h d m f.type ((b.drop f.offset).take (P.cellsOf f.type))).map λr=>(DataW.agg (r.map (·.1)),r.flatMap (·.2))else none)=some A:=by omega
  split at a
  .rename_i B;generalize z:(fs.toList.mapM λf=>DataW.trod g P j e h d m f.type ((b.drop f.offset).take (P.cellsOf f.type)))=u at a;cases u with
   |none=>cases a
   |some s=>
    have w:(l.mapM λf=>DataW.trod g P j e h d m f.1 ((b.drop f.2).take (P.cellsOf f.1)))=some s:=by
     rw[<-o,List.mapM_map];exact z
    simp only[Option.map_some,Option.some.injEq]at a;subst a;rw[DataW.weights,q]at i;simp only at i;obtain⟨y,t,k⟩:=v.read _ _ _ _ _ _ _ _ _ w (by rw[<-o,List.map_map];exact i);refine⟨y,t,?_⟩;rw[List.drop_zero,List.take_of_length_le (by omega)]at k;exact k
  .cases a
def j6.oA{n:Nat}(h:j6 P T e1 n TH)(f:α->β)(D:∀a,e2 (f a)=e1 a)(F:∀a,TH a->TK (f a)):j6 P T e2 n TK:=
 ⟨h.cells,λH ej w cv eo Z fuel cs x u X=>by obtain⟨a,Q,O⟩:=h.read H ej w cv eo Z fuel cs x u X;exact⟨f a,F a Q,by rw[D];exact O⟩⟩
structure Aw(P:Program)(T:Nat){α:Type}(bt:α->U)(ok:α->Prop):Prop where
 read:∀(H:Type) (ej:TypeId×Value->H) (w:World) (cv:Nat) (v:Value) (d:DataW H) (ps:List MemPlace),Value.okWide P w .any cv T v->DataW.Trod ej P w 0 (λ_=>true) true T v d ps->(∀k∈d.weights P T,k<=reachBytes)->∃a:α,ok a/\aN (eu w) (bt a) v
variable {bt:α->U}
def uf.wide{ok:α->Prop}(h:uf P T bt ok):Aw P T bt ok:=⟨λH ej w cv v d ps D u _=>h.read H ej w cv v d ps D u⟩
theorem yV{e:α->Prop}(h:j6 P T (λa=>[bt a]) 1 e)(i:∀w c v,Value.okWide P w .any c T v->v.cells=#[v]):Aw P T bt e:=by
 refine⟨λH l w c v k m g b f=>?_⟩;obtain⟨fuel,b⟩:=b;obtain⟨a,j,d⟩:=h.read _ _ _ _ _ _ _ _ _ b f;rw[i w c v g]at d;simp only[bX]at d
 grind
structure ru(P:Program)(ts:List Nat){β:Type}(cr:β->List U)(ok:β->Prop):Prop where
 read:∀(H:Type) (ej:TypeId×Value->H) (w:World) (cv:Nat) (vs:c4) (b2:List (DataW H)) (ps:List MemPlace),(∀(j:Nat) t v,ts[j]?=some t->vs[j]?=some v->Value.okWide P w .any cv t v)->
  DataW.TrodAll ej P w 0 (λ_=>true) true ts vs b2 ps->(∀k∈DataW.weightsEach P ts b2,k<=reachBytes)->∃b:β,ok b/\bX (eu w) (cr b) vs
def Jk:ru P [] (λ_:Unit=>[]) (λ_=>True):=⟨λ_ _ _ _ c a _ _ b _=>by
 cases c<;>cases a<;>first|exact⟨(),trivial,rfl⟩|exact b.elim⟩
def qu{ts:cg}{k:α->U}{l:β->List U}{m:α->Prop}{j:β->Prop}(B:Aw P T k m)(r:ru P ts l j):ru P (T::ts) (λp:α×β=>k p.1::l p.2) (λp=>m p.1/\j p.2):=by
 refine⟨λH o q n e c F i a g=>?_⟩;cases e with
 |nil=>cases c<;>exact a.elim
 |cons b e=>
  cases c with
  |nil=>exact a.elim
  |cons d c=>
   obtain⟨p,D,v,w,_⟩:=a;simp only[DataW.weightsEach,List.mem_append]at g;obtain⟨x,y,z⟩:=B.read H o q n b d p (i 0 T b rfl rfl) v λh f=>g h (.inl f);obtain⟨A,t,u⟩:=r.read H o q n e c D (λC E b a s=>i (C+1) E b (by simpa using a) (by simpa using s)) w λh f=>g h (.inr f);exact⟨(x,A),⟨y,t⟩,by simp only[bX];exact⟨b,e,rfl,z,u⟩⟩
def Hp{H:Type}{P:Program}{k:Nat}:∀{ts b:List TypeId} {a c:List (DataW H)},k∈DataW.weightsEach P ts a->k∈DataW.weightsEach P (ts++b) (a++c)
 |[],_,_,_,h=>by simp[DataW.weightsEach]at h
 |_::_,_,[],_,h=>by simp[DataW.weightsEach]at h
 |t::ts,b,d::a,c,h=>by
  simp only[List.cons_append,DataW.weightsEach,List.mem_append]at h ⊢;exact h.imp id Hp
variable {H:Type}{enc:TypeId×Value->H}{fn:Func}
def Jl{f pq:Nat}{s:ChangeSpec}{l:β->List U}{m:β->Prop}(w:laidOutB P=true)(C:fn.resultTypes=#[pq])(q:P.underlying pq=some .bool)(A:s.vars=[])
  (B:∀t∈fn.params.toList,P.readableRec t=true/\t<P.types.size) (r:ru P fn.params.toList l m) (y:∀b,m b->bY P f [] (l b) (.bool true))
  (z:∀a:List (DataW H),a.length=fn.params.size->(s.fn H a).results=[.lit (.bool true)]/\(s.fn H a).args=a/\(s.fn H a).vars=[])
  (c:World) (d:Nat) (args:eN) (a g:List (DataW H)) (k:List MemPlace) (o:List TypeId) (i:∀(j:Nat) t v,fn.params[j]?=some t->args[j]?=some v->Value.okWide P c .any d t v)
  (h:DataW.Whole enc P fn.params.toList s.vars false c args.toList a g k) (F:(DataW.weightsEach P (fn.params.toList++o) (a++g)).all (·<=reachBytes)=true) :
  Calls P f args c λe W'=>∃v,e=.returned v/\s.post enc P fn false true false false c args v W':=by
 refine Ji w C q A B ?_ z d a g k i h;obtain⟨I,J,x,_⟩:=h
 obtain⟨b,E,n⟩:=r.read H enc c d args.toList a I (λj t v D p=>i j t v (by simpa using D) (by simpa using p)) x λG u=>by
  have:=List.all_eq_true.1 F G (Hp u);simpa using this
 exact⟨_,n,y b E⟩
def LN{a:Assume}{C:Checked}{os:Os}{f:FuncId}{s:ChangeSpec}{conds:List PathCond}{b fresh handsOn again:Bool}
  (B:ownKnob C.prog.godebug=none) (u:os.Started) (z:C.prog.inits.idxOf? f=none) (y:C.prog.funcs[f]?=some fn)
  (A:∃(w:World) (tape:Tape) (i:Input),w.os=os/\(w.forCall tape i).Shaped C.prog/\i.vars=[]/\Input.okWide C.prog (w.forCall tape i) .any w.heap.size f i/\
   s.pre6 enc C.prog fn conds b (w.forCall tape i).memory i.args/\a.holds C.prog (lone (Frame.enter C.prog f i.args .normal) [] (w.forCall tape i)))
  (x:∀(c:World) (m:Nat) (args:eN) (d g:List (DataW H)) (l:List MemPlace),
   (∀(j:Nat) t v,fn.params[j]?=some t->args[j]?=some v->Value.okWide C.prog c .any m t v)->
   DataW.Whole enc C.prog fn.params.toList s.vars b c args.toList d g l->
   (DataW.weightsEach C.prog (fn.params.toList++s.plain.varTypes C.prog) (d++g)).all (·<=reachBytes)=true->
   Calls C.prog f args c λe W'=>∃v,e=.returned v/\s.post enc C.prog fn b fresh handsOn again c args v W') :
  ReturnsInHanded a C os f .any (s.pre6 enc C.prog fn conds b) (s.post enc C.prog fn b fresh handsOn again):=by
 have p:=returnsInHanded_of_change_and (X:=λ_ _=>True) (conds:=conds) (fresh:=fresh) (handsOn:=handsOn) (again:=again) (λ_ _ _ _ _=>trivial) B u z y (let⟨w,t,i,n,h,q,k,o,r⟩:=A;⟨w,t,i,n,h,q,k,⟨⟨o.1,trivial⟩,o.2⟩,r⟩) λc m args d g l n h _ k _ _=>x c m args d g l n h k
 have e:(λ(w:World) (args:eN)=>(s.pre enc C.prog fn conds b w args/\True)/\sizedMet enc C.prog fn (OpenSpec.ofChange s) b w args)=s.pre6 enc C.prog fn conds b:=by
  funext w args;simp only[and_true];rfl
 rw[e]at p;exact p
end
section
set_option linter.all false
open Go
variable {P:Program}{bo:ef}
variable {o:Oper}{σ:W}
def awu{G:bQ}{ev:Operand->U}{T E sz len d:Nat}{parts:Array (Nat×Operand)}{S:c4}{xs:List (List U)}(v:o.op=.buildSlice T len parts)(q:jx G.P T E sz S)(t:parts.size=len)(Z:len*sz<=65536/\len<=65536)
  (z:lM sz 0 (parts.toList.map λp=>(p.1,ev p.2))=some xs) (ae:iN (Nat.beq d) xs.flatten=false) (hi:G.ids.contains d=false):Yields G o ev ((d,.cells E xs.flatten)::σ) [d] [d] (.dr (.pU len) d):=by
 intro W af I β b h B m P Q;have O:∀p∈parts.toList,az I β (ev p.2) (h p.2):=λp A=>Q p.2 (by simp only[v,Op.operands];simpa using ⟨p.1,by simpa using A⟩);obtain⟨l,F,Y⟩:=q.zero b
 let a:eN:=(Array.range (len*sz)).map ((if len*sz=0 then #[]else l.cells)[·%(if len*sz=0 then #[]else l.cells:eN).size]!)
 have u:a.size=len*sz:=by simp[a]
 obtain⟨k,x,C,X,H,K,ab,aa⟩:=s0 (I:=I) (β:=β) sz (parts.toList.map λp=>(p.1,ev p.2)) (parts.toList.map λp=>(p.1,h p.2)) 0 a xs
  ⟨by simp,λR p ag c g=>by
   simp only[List.getElem?_map]at c g;cases e:parts.toList[R]? with
   |none=>rw[e]at c;cases c
   |some y=>
    rw[e]at c g;simp only[Option.map_some,Option.some.injEq]at c g;subst c g;exact⟨rfl,O y (List.mem_of_getElem? e)⟩⟩ z (by simp[u,t])
 have M:k.toList=x:=by
  rw[H];have J:a.toList.drop ((0+(parts.toList.map λp=>(p.1,ev p.2)).length)*sz)=[]:=List.drop_of_length_le (by simp[u,t]);rw[J];simp
 have D:(execOp h o).run G.P b=.ok (.value (.slice (some ⟨b.heap.size,0,none⟩) len len)) (b.alloc (.cells k E)):=by
  have L:¬(len*sz>2 ^ 24):=by have:(2:Nat) ^ 24=16777216:=by decide
                              omega
  have f:Instr.fill (λr=>some (r*sz,sz)) a (parts.map λ(r,w)=>(r,h w)).toList=some k:=by simpa using C
  simp only[execOp,v,Instr.buildSlice,Sem.run_bind,run_underlying q.ee,q.size,Result.andThen_ok,L,if_false];by_cases j:len*sz=0
  .have n:a=(Array.range (len*sz)).map ((#[]:eN)[·%(#[]:eN).size]!):=by simp only[a,j,if_true]
   rw[n]at f;simp only[j,if_true,Sem.run_bind,Sem.run_pure,Result.andThen_ok]at f ⊢;simp only[f];simp[newRow]
  .have n:a=(Array.range (len*sz)).map (l.cells[·%l.cells.size]!):=by simp only[a,j,if_false]
   rw[n]at f;simp only[j,if_false,Sem.run_bind,F,Sem.run_pure,Result.andThen_ok];simp only[f];simp[newRow]
 rw[D];have s:=P d (by simp);refine⟨I,et β d (.pointer (some ⟨b.heap.size,0,none⟩)),by simp only[az,iU.rep];exact⟨b.heap.size,by rw[eB];rfl,rfl⟩,?_,bM.refl I,λw e=>ff β _ (λN=>e (by simp[N]))⟩;refine m.real (by simpa using hi) s rfl λV i=>?_;rw[B d (by simp),auU,if_pos rfl]at i;injection i with i
 subst i;simp only[bb,eB];refine .inr ⟨b.heap.size,k,rfl,heap_alloc_new b _,?_,λo=>m.fJ (Nat.le_refl _) o,.inl m.size⟩;rw[M];exact CN (bM.refl I) (avi s) _ _ K
def AH(bo:ef)(d:Nat)(ids:cg)(op:Op)(env:ah):Option (bP×bL):=match op with
 |.buildSlice b len parts=>match bo.get b with
  |some ⟨_,_,_,.slice E a _ _⟩=>bif Nat.beq parts.size len&&(Nat.ble (len*a) 65536&&Nat.ble len 65536)&&!ids.contains d then(match env.k9 parts.toList with
   |none=>none
   |some c=>match nx a 0 c with
    |none=>none
    |some xs=>bif !iN (Nat.beq d) xs.flatten then some (.v d (.cells E xs.flatten) (.dr (.pU len) d),([],[]))else none)else none
  |_=>none
 |_=>none
def MQ(m:fI P bo){d:Nat}{N:Nat}{ids:cg}{env:ah}{s:bP}{g:bL}(a:AH bo d ids o.op env=some (s,g)):c7 ⟨P,N,ids⟩ o env σ s:=by
 unfold AH at a;split at a
 .rename_i q n parts i;split at a
  .rename_i l;have f:=(fL.get m.tys l).kd;simp only[g6]at f;generalize b:(Nat.beq parts.size n&&_&&_)=k at a;cases k with
   |false=>cases a
   |true=>
    simp only[cond_true]at a;rw[Bool.and_eq_true,Bool.and_eq_true]at b;split at a
    .cases a
    .rename_i r j;split at a
     .cases a
     .rename_i p h;cases c:iN (Nat.beq d) p.flatten with
      |true=>rw[c]at a;cases a
      |false=>
       rw[c]at a;cases a
       have e:ids.contains d=false:=by simpa using b.2
       exact⟨e,awu (G:=⟨P,N,ids⟩) i f.2.2 (by simpa using b.1.1) (by simpa using b.1.2) (by rw[avx j];exact w5 _ h) c e⟩
  .cases a
 .cases a
def Gf(a:fI P bo)(d:Nat):Hint P:=.gs false ([],[]) (λids e b _=>AH bo d ids e b) λ_ _ _ _ _ _ _ c _=>MQ a c
end
section
set_option linter.all false
open Go Go.Sort Go.Lib Go.Shelf Go.RowKit
theorem LO{w w':World}(e:∀b,b<w.heap.size->w'.heap[b]?=w.heap[b]?)(f:w.heap.size<=w'.heap.size)(a:w'.tape=w.tape)(c:w'.os=w.os)(d:w'.output=w.output)(g:w.drawn<=w'.drawn):
  ∃q h,w'=grow (w.drewN q) h:=by
 refine⟨w'.drawn-w.drawn,w'.heap.extract w.heap.size w'.heap.size,?_⟩;obtain⟨n,t1,d1,j,i⟩:=w';obtain⟨m,p,l,o,k⟩:=w;simp only at e f a c d g ⊢;subst a c d;simp only[grow,World.drewN];congr 1
 .grind
 .omega
variable {α:Type}
def xS(l:List (α->Int)):SWO (ltOf (c9 l)) where
 irrefl:=λa=>by simpa [ltOf]using Cb l a
 trans:=λa d e c b=>by simp only[ltOf,decide_eq_true_eq]at *;exact mc l a d e c b
 ntrans:=λa d e c b=>by simp only[ltOf,decide_eq_false_iff_not]at *;exact Cc l a d e c b
variable {P:Program}{TW:α->α->Int}{UK:α->c4}{enc:α->List U}{g:FuncId}{k:Nat}
def xz[Inhabited α](d:∀(I:a2) (β:Nat->Value) x,bx I β (enc x) (UK x))
    (a1:∀x y,bY P g [] [.agg (enc x),.agg (enc y)] (.int .i64 (TW x y))) (bE off size:Nat) (w:World):CmpLays P g #[] UK k TW bE off size w:=λo os l r x y=>by
  generalize sortWorldK UK k w bE off o l os=c
  have h:bG ⟨P,0,[]⟩ (h0 (eu c) (λ_=>.nilFunc) [] c) (eu c) (λ_=>.nilFunc) [] c:=
    {good:=qz,eD:=qn,fK:=bM.refl _,fB:=λ_ _ _ _=>rfl,frame:=λ_ _ _=>rfl,size:=Nat.le_refl _,tape:=rfl,os:=rfl,output:=rfl,drawn:=Nat.le_refl _,
     b5:=λe u b=>by simp[W.get]at b,cA:=λe s b=>by simp[W.get]at b,keep:=λe b=>by simp at b}
  have j:=a1 x y _ c _ (λ_=>.nilFunc) [.agg (UK x).toArray,.agg (UK y).toArray] h (by
    simp only[bx,az];exact⟨_,_,rfl,⟨_,rfl,d _ _ x⟩,_,_,rfl,⟨_,rfl,d _ _ y⟩,rfl⟩)
  refine Calls.mono j ?_;rintro t A ⟨z,rfl,v,q,p,B,⟨rfl,rfl⟩,i,a⟩;have m:=fW i;subst m;exact⟨rfl,LO (λn f=>a.frame n f (by simp[h0,mj,W.ids])) a.size a.tape a.os a.output a.drawn⟩
def Ce{k:Nat}(b:0<k):∀(L:List (List Value)),(∀x∈L,x.length=k)->∀t,L.flatten[t]?=(L[t / k]?).bind λx=>x[t%k]?
 |[],_,t=>by simp
 |x::r,h,t=>by
  have c:=h x (by simp);rw[List.flatten_cons];by_cases a:t<k
  .rw[List.getElem?_append_left (by omega),Nat.div_eq_of_lt a,Nat.mod_eq_of_lt a];simp
  .rw[List.getElem?_append_right (by omega),Ce b r (λg d=>h g (by simp[d])),c];have e:t / k=(t-k) / k+1:=by rw[Nat.div_eq_sub_div b (by omega)]
   have f:(t-k)%k=t%k:=by rw[Nat.mod_eq_sub_mod (by omega:t>=k)]
   rw[e,f];simp
theorem CM[Inhabited α](c:0<k)(g:∀x,(UK x).length=k)(d:Array α):(flatK UK k d).toList=(d.toList.map UK).flatten:=by
 apply List.ext_getElem?;intro a;rw[Ce c _ (λx h=>by obtain⟨i,_,rfl⟩:=List.mem_map.1 h;exact g i),List.getElem?_map,Array.getElem?_toList,Array.getElem?_toList];by_cases b:a<d.size*k
 .have e:a / k<d.size:=(Nat.div_lt_iff_lt_mul c).2 b;have f:=get_flatK UK k d a b;rw[Array.getElem?_eq_getElem (by simpa using b),Array.getElem?_eq_getElem e];rw[getElem!_pos (flatK UK k d) a (by simpa using b)]at f;rw[f,getElem!_pos d _ e];have j:a%k<(UK d[a / k]).length:=by rw[g];exact Nat.mod_lt _ c
  grind
 .have e:d.size<=a / k:=(Nat.le_div_iff_mul_le c).2 (by omega)
  simp_all
def ry(P:Program)(f g:FuncId){α:Type}[Inhabited α](UK:α->c4)(k:Nat)(TW:α->α->Int):Prop:=∀(bE d aR:Nat) (a:Array α) (b:World),HoldsK UK k b bE d a->bE<b.heap.size->a.size<4611686018427387904->
 Calls P f #[.slice (some ⟨bE,d,none⟩) a.size aR,.func (.func g) #[] #[]] b λe j=>e=.returned (.tuple #[])/\∃c h i,PermIn 0 a.size a c/\SortedIn (ltOf TW) 0 a.size c/\j=sortWorldK UK k b bE d h c i
def N7(P:Program)(f:FuncId):Prop:=∀(d:Option Addr) (aR:Nat) (b:Value) (a:World),Calls P f #[.slice d 0 aR,b] a λc e=>c=.returned (.tuple #[])/\e=a
theorem Ir[Inhabited α]{d c:Array α}(h:PermIn 0 d.size d c)(j:SortedIn (ltOf TW) 0 d.size c):c.toList.Perm d.toList/\c.toList.Pairwise λa b=>¬TW b a<0:=by
 obtain⟨l,_,m⟩:=h;refine⟨?_,?_⟩
 .have n:c.extract 0 d.size=c:=by rw[<-l];simp
  simp_all
 rw[List.pairwise_iff_getElem];intro f e o g i;have k:e<c.size:=by simpa using g
 have:=j f e (Nat.zero_le _) i (by omega);rw[getElem!_pos c e k,getElem!_pos c f (by omega)]at this;simpa [ltOf]using this
def s6{I:a2}{α:Type}{enc:α->List U}{UK:α->c4}(a:∀x vs,bX I (enc x) vs↔vs=UK x):∀(b:List α) (vs:c4),bX I (b.map enc).flatten vs↔vs=(b.map UK).flatten
 |[],vs=>by simp[bX]
 |z::r,vs=>by
  simp only[List.map_cons,List.flatten_cons];rw[hC];constructor
  .rintro⟨d,e,rfl,f,c⟩;rw[(a z d).1 f,(s6 a r e).1 c]
  .rintro rfl;exact⟨_,_,rfl,(a z _).2 rfl,(s6 a r _).2 rfl⟩
theorem xO{f:FuncId}[Inhabited α](s:∀(I:a2) x vs,bX I (enc x) vs↔vs=UK x)(B:0<k)(V:∀x,(UK x).length=k)(ao:∀x,(enc x).length=k)
  (X:∀a b c,TW a b<0->TW b c<0->TW a c<0) (ai:ry P f g UK k TW) (aq:N7 P f) {d T:Nat} {e i:List α} (o:gA TW e=some i) :
  cI P f [(d,.slice T k (e.map enc) 0 false)] [.own d,.fn g []] (λr Z=>r=.bO []/\Z=[(d,.slice T k (i.map enc) 0 false)]):=by
 intro a9 p I M vs u j;obtain⟨F,ak,aU⟩:=I2 X o;simp only[bx]at j;obtain⟨a8,aW,rfl,j,a3,a6,rfl,y,rfl⟩:=j;simp only[az,bx]at y;obtain⟨aI,rfl,y⟩:=y;have aM:aI=#[]:=by apply Array.ext';simpa using y
 subst aM;have an:W.get [(d,b1.slice T k (e.map enc) 0 false)] d=some (.slice T k (e.map enc) 0 false):=by rw[auU,if_pos rfl]
 have O:=u.b5 d _ an;simp only[az]at j;obtain⟨rfl,j⟩:=j;simp only[bb,List.length_map]at O;rcases O with L|⟨L,D,_⟩|⟨b,aR,l,C,D,Y,q,R,aa,aZ,a0,aY,S,U⟩
 .rw[L]at j;simp[fA]at j
 .have aw:e=[]:=by simpa using D
  subst aw;have aG:i=[]:=F.eq_nil;subst aG;rw[L];refine Calls.mono (aq none 0 _ p) ?_;rintro A aV ⟨rfl,rfl⟩;exact⟨.tuple #[],rfl,.bO [],_,I,M,⟨rfl,rfl⟩,by simp only[az,bx];exact⟨_,rfl,rfl⟩,u⟩
 .have ag:l.toList.take (e.length*k)=(e.map UK).flatten:=(s6 (s I) e _).1 aa;have ab:l.size=aR*k:=R;have a5:e.length*k<=l.size:=by rw[ab];exact Nat.mul_le_mul_right k D
  have am:(flatK UK k e.toArray).toList=(e.map UK).flatten:=by rw[CM B V]
  have a4:∀h,h<e.length*k->l[h]?=some ((flatK UK k e.toArray)[h]!):=λh m=>by
   have aS:(flatK UK k e.toArray)[h]?=l[h]?:=by
    rw[<-Array.getElem?_toList,<-Array.getElem?_toList,am,<-ag,List.getElem?_take,if_pos m]
   have N:h<(flatK UK k e.toArray).size:=by simpa using m
   rw[<-aS,getElem!_pos _ h N,Array.getElem?_eq_getElem N]
  have ae:HoldsK UK k p b 0 e.toArray:=λh m=>by
   have m:h<e.length*k:=by simpa using m
   constructor
   .simp only[World.cell?,q,Nat.zero_add]
    grind
   .simp[World.frozen?,q]
  have v:=fo q;have ar:=ai b 0 aR e.toArray p ae v (by simpa using aU);rw[C];refine Calls.mono ar ?_;rintro A aV ⟨rfl,z,H,K,aD,hq,rfl⟩;obtain⟨aE,ax⟩:=Ir aD hq;have Q:z.toList=i:=Cq (aE.trans F.symm) ak ax;have G:i.length=e.length:=F.length_eq;have af:z.size=e.length:=by rw[<-G,<-Q];simp
  generalize E:flatK UK k z=n;have aC:n.toList=(i.map UK).flatten:=by rw[<-E,CM B V,Q]
  have a7:n.size=e.length*k:=by rw[<-E,size_flatK,af]
  have aF:sortWorldK UK k p b 0 H z K=grow (putRow id (Go.Sort.ahead p H) b 0 n) K:=by rw[<-E];rfl
  rw[aF];have aA:(grow (putRow id (Go.Sort.ahead p H) b 0 n) K).heap[b]?=some (.cells (putCells id 0 n l) T (0,0)):=by
   simp only[grow,putRow,mapBlock,Go.Sort.ahead];rw[Array.getElem?_append_left (by simpa using v),Array.getElem?_modify,if_pos rfl,q];rfl
  have aB:(putCells id 0 n l).toList.take (i.length*k)=(i.map UK).flatten:=by
   rw[<-aC];apply List.ext_getElem?;intro h;rw[List.getElem?_take];split
   .rename_i m;rw[G]at m;have a1:h<l.size:=by omega
    rw[Array.getElem?_toList,Array.getElem?_toList];simp only[putCells,Array.getElem?_mapIdx]
    grind
   .grind
  refine⟨.tuple #[],rfl,.bO [],_,I,M,⟨rfl,rfl⟩,by simp only[az,bx];exact⟨_,rfl,rfl⟩,?_⟩;refine bG.turn (b:=b) (d:=d) u ⟨λk B v=>?_,by simp[grow,putRow,mapBlock,Go.Sort.ahead],rfl,rfl,rfl,by simp[grow,putRow,mapBlock,Go.Sort.ahead]⟩ U (λx t=>?_) (λx t o _=>?_) (bM.refl I) (λ_ _ _=>rfl) (λJ ba s=>?_) (u.kW q) (λ_ _=>rfl) (.inr rfl) (en.refl M) (.inl (by rw[C];rfl)) (λaX w=>?_)
  .simp only[grow,putRow,mapBlock,Go.Sort.ahead];rw[Array.getElem?_append_left (by simpa using v),Array.getElem?_modify,if_neg (λA=>B A.symm)]
  .rw[auU,auU,if_neg (Ne.symm t),if_neg (Ne.symm t)]
  .rw[auU,if_neg (Ne.symm t)]at o;simp[W.get]at o
  .rw[S J (by omega)]at s;cases s
  .rw[auU,if_pos rfl]at w;injection w with w
   subst w;simp only[bb,List.length_map];refine .inr (.inr ⟨b,aR,_,by rw[C,G],by omega,Y,aA,by simpa [putCells]using R,?_,?_,by omega,?_,?_,U⟩)
   .exact(s6 (s I) _ _).2 aB
   .intro A aT;obtain⟨x,_,rfl⟩:=List.mem_map.1 aT;exact ao x
   .intro o;cases o
   .intro J _;exact S J (by omega)
end
end Go.Proofs.YtmnbolcmepihlaaGreat
