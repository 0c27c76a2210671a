/- Several texts in one. No condition but those that stand in each. -/
import Derived.Orders
import Derived.Tactics
import Derived.Laws.World
import Derived.Below
import Derived.KernelRfl
import Derived.Laws.Small
import Derived.Laws.StructEq
import Derived.Laws.OwnMore
import Derived.Maps.AppendAt
namespace Go.Proofs.YtmnbolcmepihlaaGreat
set_option linter.all false
open Go List
section
abbrev cO:=List Int
abbrev dI:=List Nat
abbrev dQ:=List Value
abbrev ia:=Array MapEntry
abbrev jc:=Array Value
abbrev jO:=Option Int
abbrev jV:=List (List Bool)
abbrev j4:=Option Nat
abbrev j9:=Option Bool
abbrev mg:=Array Oper
abbrev nc:=List MapEntry
abbrev pE:=Array Nat
abbrev rR:=Option (List Int)
abbrev rT:=List Bool
abbrev su:=List (List Nat)
abbrev tJ:=Array Bool
abbrev bG:=Nat→j4→Option Value
def cV(I bq:bG):Prop:=∀b o v,I b o=some v→bq b o=some v
def cV.refl(I:bG):cV I I:=λ_ _ _ h=>h
variable {I:bG}
def cV.trans{J K:bG}(h:cV I J)(b3:cV J K):cV I K:=λ_ _ _ x=>b3 _ _ _ (h _ _ _ x)
inductive uE where
 |Vv (f:Nat)
 |BY (n:Nat)
 |row (i:Nat)
 |T3 (i off:Nat)
 deriving DecidableEq
inductive W where
 |fP
 |undef
 |int (k:IntKind) (n:Int)
 |bool (b:Bool)
 |str (s:ByteArray)
 |bf (full:Bool) (xs:List (List W))
 |gq (cs:List W)
 |agg (cs:List W)
 |c5 (vs:List W)
 |fn (f:Nat) (aV:List W)
 |c6
 |oC
 |own (d:Nat)
 |ptr (d off:Nat)
 |dm (d:Nat)
 |e7 (f:Nat) (aV:List W)
 |k7
 |ja (k:uE) (d:Nat)
 |c7 (bL:List (W×W))
 |arr (xs:cO)
 deriving Inhabited
def qF(es:ia)(clock:Nat):Value:=.tuple #[.int .i64 (clock:Int),.tuple (es.map λe=>.tuple #[e.key,e.val,.int .i64 (e.born:Int)])]
def CY{es hA:ia}{c nZ:Nat}(h:qF es c=qF hA nZ):es=hA∧c=nZ:=by
 simp only[qF,Value.tuple.injEq,Array.mk.injEq,List.cons.injEq,Value.int.injEq,true_and,and_true,Int.ofNat_inj]at h;refine⟨?_,h.1⟩;refine Array.map_inj_right (λx y nu=>?_)|>.1 h.2;simp only[Value.tuple.injEq,Array.mk.injEq,List.cons.injEq,Value.int.injEq,true_and,and_true,Int.ofNat_inj]at nu;obtain⟨k,v,b⟩:=x;obtain⟨er,dM,aS⟩:=y
 simp only at nu;obtain⟨rfl,rfl,rfl⟩:=nu;rfl
def km(es:ia)(clock:Nat):Prop:=(es.toList.map (·.born)).Nodup∧∀x∈es.toList,x.born<clock
mutual
def bm(I:bG):W→Value→Prop
 |.fP,_=>True
 |.undef,v=>v=Go.undef
 |.int k n,v=>v=.int k n
 |.bool b,v=>v=.bool b
 |.str s,v=>v=.string s
 |.bf full xs,v=>∃a c,v=.slice a xs.length c∧xs.length≤c∧c≤maxLen∧(full=true→c=xs.length)∧
   (xs=[]∨∃b o,a=some ⟨b,o,none⟩∧kf I b xs o)
 |.gq cs,v=>∃b o,v=.pointer (some ⟨b,o,none⟩)∧l1 I b cs o
 |.agg cs,v=>∃vs,v=.agg vs∧ds I cs vs.toList
 |.c5 cs,v=>∃vs,v=.tuple vs∧ds I cs vs.toList
 |.fn f aV,v=>∃vs,v=.func (.func f) #[] vs∧ds I aV vs.toList
 |.c6,v=>v=.slice none 0 0
 |.oC,v=>v=.pointer none
 |.own _,_=>False
 |.ptr _ _,_=>False
 |.dm _,_=>False
 |.e7 f aV,v=>∃vs,v=.func (.func f) #[] vs∧ds I aV vs.toList
 |.k7,v=>∃a c,v=.slice (some a) 0 c∧c≤maxLen
 |.ja _ _,_=>False
 |.arr xs,v=>v=.agg (xs.map (Value.int .i64)).toArray
 |.c7 bL,v=>∃r es clock,v=.map (some r)∧I r none=some (qF es clock)∧fm I bL es.toList∧km es clock
def fm(I:bG):List (W×W)→nc→Prop
 |[],es=>es=[]
 |(k,v)::r,es=>∃e us,es=e::us∧bm I k e.key∧bm I v e.val∧fm I r us
def ds(I:bG):List W→dQ→Prop
 |[],vs=>vs=[]
 |x::r,vs=>∃aR us,vs=aR::us∧bm I x aR∧ds I r us
def l1(I:bG)(b:Nat):List W→Nat→Prop
 |[],_=>True
 |x::r,o=>(∃aR,I b o=some aR∧bm I x aR)∧l1 I b r (o+1)
def kf(I:bG)(b:Nat):List (List W)→Nat→Prop
 |[],_=>True
 |e::r,o=>l1 I b e o∧kf I b r (o+e.length)
end
def i1:Value→Bool|.slice ..=>true|_=>false
def nV:Value→Bool|.map ..=>true|_=>false
def cb:Value→j4
 |.pointer (some a)=>some a.block
 |.slice (some a) _ _=>some a.block
 |.map (some r)=>some r
 |_=>none
def dA:Value→dI
 |.tuple vs=>vs.toList.filterMap cb
 |v=>(cb v).toList
variable {b:Nat}
def kL{v:Value}(h:cb v=some b):b∈dA v:=by
 cases v<;>first|(simp[cb]at h;done)|(simp only[dA,h];simp)
def Gm{v:Value}{aS:Nat}(h:cb v=some b)(b3:aS∈dA v):aS=b:=by
 cases v<;>first|(simp[cb]at h;done)|(simp only[dA,h]at b3;simpa using b3)
def OO:dA .nilFunc=[]:=rfl
def Km:dA (.slice none 0 0)=[]:=rfl
def uE.rep:uE→Value→Value→Prop
 |.Vv f,h,v=>∃b,cb h=some b∧v=.func (.func f) #[.pointer (some ⟨b,0,none⟩)] #[]
 |.BY n,h,v=>∃b,cb h=some b∧v=.slice (some ⟨b,0,none⟩) n n
 |.row i,h,v=>∃Z:jc,h=.tuple Z∧Z.toList[i]?=some v
 |.T3 i off,h,v=>∃(Z:jc) (aR:Value) (b:Nat),h=.tuple Z∧Z.toList[i]?=some aR∧cb aR=some b∧v=.pointer (some ⟨b,off,none⟩)
def axX{k:uE}{v:Value}(h:k.rep .nilFunc v):False:=by
 cases k with
 |Vv f=>obtain⟨b,h,_⟩:=h;cases h
 |BY n=>obtain⟨b,h,_⟩:=h;cases h
 |row i=>obtain⟨Z,h,_⟩:=h;cases h
 |T3 i off=>obtain⟨Z,aR,b,h,_⟩:=h;cases h
mutual
def aC(I:bG)(β:Nat→Value):W→Value→Prop
 |.agg cs,v=>∃vs,v=.agg vs∧b8 I β cs vs.toList
 |.c5 cs,v=>∃vs,v=.tuple vs∧b8 I β cs vs.toList
 |.fn f aV,v=>∃vs,v=.func (.func f) #[] vs∧b8 I β aV vs.toList
 |.own d,v=>v=β d∧i1 v=true
 |.ptr d off,v=>∃b,cb (β d)=some b∧v=.pointer (some ⟨b,off,none⟩)
 |.dm d,v=>v=β d∧nV v=true
 |.fP,_=>True
 |.undef,v=>bm I .undef v
 |.int k n,v=>bm I (.int k n) v
 |.bool b,v=>bm I (.bool b) v
 |.str s,v=>bm I (.str s) v
 |.bf f xs,v=>bm I (.bf f xs) v
 |.gq cs,v=>bm I (.gq cs) v
 |.c6,v=>bm I .c6 v
 |.oC,v=>bm I .oC v
 |.e7 f aV,v=>bm I (.e7 f aV) v
 |.k7,v=>bm I .k7 v
 |.ja k d,v=>k.rep (β d) v
 |.c7 bL,v=>bm I (.c7 bL) v
 |.arr xs,v=>bm I (.arr xs) v
def b8(I:bG)(β:Nat→Value):List W→dQ→Prop
 |[],vs=>vs=[]
 |x::r,vs=>∃aR us,vs=aR::us∧aC I β x aR∧b8 I β r us
end
mutual
def kK{I bq:bG}(h:cV I bq):∀(x:W) (v:Value),bm I x v→bm bq x v
 |.fP,_,_=>trivial
 |.undef,_,r=>r
 |.int _ _,_,r=>r
 |.bool _,_,r=>r
 |.str _,_,r=>r
 |.bf full xs,v,r=>by
   simp only[bm]at r ⊢;obtain⟨a,c,h1,D,aq,aZ,bV⟩:=r;refine⟨a,c,h1,D,aq,aZ,?_⟩;rcases bV with bV|⟨b,o,bV,dU⟩
   ·exact .inl bV
   ·exact .inr ⟨b,o,bV,Ax h xs b o dU⟩
 |.gq cs,v,r=>by
   simp only[bm]at r ⊢;obtain⟨b,o,h1,D⟩:=r;exact⟨b,o,h1,OX h cs b o D⟩
 |.agg cs,v,r=>by
   simp only[bm]at r ⊢;obtain⟨vs,h1,D⟩:=r;exact⟨vs,h1,ni h cs _ D⟩
 |.c5 cs,v,r=>by
   simp only[bm]at r ⊢;obtain⟨vs,h1,D⟩:=r;exact⟨vs,h1,ni h cs _ D⟩
 |.fn f aV,v,r=>by
   simp only[bm]at r ⊢;obtain⟨vs,h1,D⟩:=r;exact⟨vs,h1,ni h aV _ D⟩
 |.c6,_,r=>r
 |.oC,_,r=>r
 |.own _,_,r=>r
 |.ptr _ _,_,r=>r
 |.dm _,_,r=>r
 |.e7 f aV,v,r=>by
   simp only[bm]at r ⊢;obtain⟨vs,h1,D⟩:=r;exact⟨vs,h1,ni h aV _ D⟩
 |.k7,_,r=>by simp only[bm]at r ⊢;exact r
 |.ja _ _,_,r=>r
 |.arr _,v,r=>by simpa only[bm]using r
 |.c7 bL,v,r=>by
   simp only[bm]at r ⊢;obtain⟨b,es,clock,h1,D,aq,aZ⟩:=r;exact⟨b,es,clock,h1,h _ _ _ D,n1 h bL _ aq,aZ⟩
def n1{I bq:bG}(h:cV I bq):∀(x:List (W×W)) (es:nc),fm I x es→fm bq x es
 |[],_,r=>r
 |(k,aR)::x,es,r=>by
   simp only[fm]at r ⊢;obtain⟨e,us,h1,D,aq,aZ⟩:=r;exact⟨e,us,h1,kK h k _ D,kK h aR _ aq,n1 h x us aZ⟩
def ni{I bq:bG}(h:cV I bq):∀(x:List W) (v:dQ),ds I x v→ds bq x v
 |[],_,r=>r
 |x::xs,v,r=>by
   simp only[ds]at r ⊢;obtain⟨aR,us,h1,D,aq⟩:=r;exact⟨aR,us,h1,kK h x aR D,ni h xs us aq⟩
def OX{I bq:bG}(h:cV I bq):∀(x:List W) (b o:Nat),l1 I b x o→l1 bq b x o
 |[],_,_,r=>r
 |x::xs,b,o,r=>by
   simp only[l1]at r ⊢;obtain⟨⟨aR,h1,D⟩,aq⟩:=r;exact⟨⟨aR,h _ _ _ h1,kK h x aR D⟩,OX h xs b (o+1) aq⟩
def Ax{I bq:bG}(h:cV I bq):∀(x:List (List W)) (b o:Nat),kf I b x o→kf bq b x o
 |[],_,_,r=>r
 |x::xs,b,o,r=>by
   simp only[kf]at r ⊢;exact⟨OX h x b o r.1,Ax h xs b (o+x.length) r.2⟩
end
def h5(β β':Nat→Value):Prop:=∀d,β d=.nilFunc∨β' d=β d
def h5.refl(β:Nat→Value):h5 β β:=λ_=>.inr rfl
mutual
def Gn{I bq:bG}{β β':Nat→Value}(h:cV I bq)(U:h5 β β'):∀(x:W) (v:Value),aC I β x v→aC bq β' x v
 |.fP,_,_=>trivial
 |.undef,v,r=>by simp only[aC]at r ⊢;exact kK h _ v r
 |.int _ _,v,r=>by simp only[aC]at r ⊢;exact kK h _ v r
 |.bool _,v,r=>by simp only[aC]at r ⊢;exact kK h _ v r
 |.str _,v,r=>by simp only[aC]at r ⊢;exact kK h _ v r
 |.bf _ _,v,r=>by simp only[aC]at r ⊢;exact kK h _ v r
 |.gq _,v,r=>by simp only[aC]at r ⊢;exact kK h _ v r
 |.c6,v,r=>by simp only[aC]at r ⊢;exact kK h _ v r
 |.oC,v,r=>by simp only[aC]at r ⊢;exact kK h _ v r
 |.e7 _ _,v,r=>by simp only[aC]at r ⊢;exact kK h _ v r
 |.k7,v,r=>by simp only[aC]at r ⊢;exact kK h _ v r
 |.c7 _,v,r=>by simp only[aC]at r ⊢;exact kK h _ v r
 |.arr _,v,r=>by simp only[aC]at r ⊢;exact kK h _ v r
 |.agg cs,v,r=>by
   simp only[aC]at r ⊢;obtain⟨vs,h1,D⟩:=r;exact⟨vs,h1,vP h U cs _ D⟩
 |.c5 cs,v,r=>by
   simp only[aC]at r ⊢;obtain⟨vs,h1,D⟩:=r;exact⟨vs,h1,vP h U cs _ D⟩
 |.fn f aV,v,r=>by
   simp only[aC]at r ⊢;obtain⟨vs,h1,D⟩:=r;exact⟨vs,h1,vP h U aV _ D⟩
 |.own d,v,r=>by
   simp only[aC]at r ⊢;obtain⟨rfl,D⟩:=r;rcases U d with e|e
   ·rw[e]at D;simp[i1]at D
   ·exact⟨e.symm,D⟩
 |.dm d,v,r=>by
   simp only[aC]at r ⊢;obtain⟨rfl,D⟩:=r;rcases U d with e|e
   ·rw[e]at D;simp[nV]at D
   ·exact⟨e.symm,D⟩
 |.ptr d off,v,r=>by
   simp only[aC]at r ⊢;obtain⟨b,h1,D⟩:=r;rcases U d with e|e
   ·rw[e]at h1;simp[cb]at h1
   ·exact⟨b,by rw[e];exact h1,D⟩
 |.ja k d,v,r=>by
   simp only[aC]at r ⊢;rcases U d with e|e
   ·rw[e]at r;exact(axX r).elim
   ·rw[e];exact r
def vP{I bq:bG}{β β':Nat→Value}(h:cV I bq)(U:h5 β β'):∀(x:List W) (v:dQ),b8 I β x v→b8 bq β' x v
 |[],_,r=>r
 |x::xs,v,r=>by
   simp only[b8]at r ⊢;obtain⟨aR,us,h1,D,aq⟩:=r;exact⟨aR,us,h1,Gn h U x aR D,vP h U xs us aq⟩
end
mutual
def W.refs(p:Nat→Bool):W→Bool
 |.agg cs=>qa p cs
 |.c5 cs=>qa p cs
 |.fn _ cs=>qa p cs
 |.own d=>p d
 |.ptr d _=>p d
 |.ja _ d=>p d
 |.dm d=>p d
 |_=>false
def qa(p:Nat→Bool):List W→Bool
 |[]=>false
 |x::r=>x.refs p||qa p r
end
mutual
def xh{I:bG}{β β':Nat→Value}{p:Nat→Bool}(U:∀d,p d=false→β' d=β d):∀(x:W) (v:Value),x.refs p=false→aC I β x v→aC I β' x v
 |.fP,_,_,_=>trivial
 |.undef,v,_,r=>by simp only[aC]at r ⊢;exact r
 |.int _ _,v,_,r=>by simp only[aC]at r ⊢;exact r
 |.bool _,v,_,r=>by simp only[aC]at r ⊢;exact r
 |.str _,v,_,r=>by simp only[aC]at r ⊢;exact r
 |.bf _ _,v,_,r=>by simp only[aC]at r ⊢;exact r
 |.gq _,v,_,r=>by simp only[aC]at r ⊢;exact r
 |.c6,v,_,r=>by simp only[aC]at r ⊢;exact r
 |.oC,v,_,r=>by simp only[aC]at r ⊢;exact r
 |.e7 _ _,v,_,r=>by simp only[aC]at r ⊢;exact r
 |.k7,v,_,r=>by simp only[aC]at r ⊢;exact r
 |.c7 _,v,_,r=>by simp only[aC]at r ⊢;exact r
 |.arr _,v,_,r=>by simp only[aC]at r ⊢;exact r
 |.agg cs,v,e,r=>by
   simp only[aC,W.refs]at r e ⊢;obtain⟨vs,h1,D⟩:=r;exact⟨vs,h1,Gh U cs _ e D⟩
 |.c5 cs,v,e,r=>by
   simp only[aC,W.refs]at r e ⊢;obtain⟨vs,h1,D⟩:=r;exact⟨vs,h1,Gh U cs _ e D⟩
 |.fn f aV,v,e,r=>by
   simp only[aC,W.refs]at r e ⊢;obtain⟨vs,h1,D⟩:=r;exact⟨vs,h1,Gh U aV _ e D⟩
 |.own d,v,e,r=>by
   simp only[aC,W.refs]at r e ⊢;rw[U d e];exact r
 |.dm d,v,e,r=>by
   simp only[aC,W.refs]at r e ⊢;rw[U d e];exact r
 |.ptr d off,v,e,r=>by
   simp only[aC,W.refs]at r e ⊢;rw[U d e];exact r
 |.ja k d,v,e,r=>by
   simp only[aC,W.refs]at r e ⊢;rw[U d e];exact r
def Gh{I:bG}{β β':Nat→Value}{p:Nat→Bool}(U:∀d,p d=false→β' d=β d):∀(x:List W) (v:dQ),qa p x=false→b8 I β x v→b8 I β' x v
 |[],_,_,r=>r
 |x::xs,v,e,r=>by
   simp only[b8,qa,Bool.or_eq_false_iff]at r e ⊢;obtain⟨aR,us,h1,D,aq⟩:=r;exact⟨aR,us,h1,xh U x aR e.1 D,Gh U xs us e.2 aq⟩
end
inductive jo where
 |sl (T:TypeId) (sz:Nat) (xs:List (List W))
 |mp (K E:TypeId) (bL:List (W×W))
inductive cE where
 |cells (T:TypeId) (cs:List W)
 |slice (T:TypeId) (sz:Nat) (xs:List (List W)) (k:Nat) (cT:Bool)
 |map (K E:TypeId) (bL:List (W×W))
 |win (T:TypeId) (sz:Nat) (xs:List (List W))
 |k3 (K E:TypeId) (bL:List (W×W))
 |hM (es:ia) (clock:Nat) (K E:TypeId) (bL:List (W×W))
 |iter (cW si kX:Nat) (seen:pE)
 |hdr (cW n:Nat)
 |cL (fh:List jo)
 |e9 (T:TypeId) (e n:Nat) (dk:Option (j4×Nat))
 |iF (T:TypeId) (sz:Nat) (xs:List (List W)) (lZ e:Nat) (dk:Option (j4×Nat))
 |fQ (K E:TypeId) (e:Nat) (keys:List W) (dk:Option (j4×Nat)) (js:Option (ia×Nat))
 |hU (T:TypeId) (xs:List (List W)) (t:Nat)
 |vec (T:TypeId) (xs:cO)
 |kE (es:ia) (clock:Nat) (bL:List (W×W)) (seen:pE)
abbrev ag:=List (Nat×cE)
def ag.get:ag→Nat→Option cE
 |[],_=>none
 |(k,v)::r,n=>bif Nat.beq k n then some v else ag.get r n
abbrev au:=List (Nat×W)
def au.get:au→Nat→W
 |[],_=>.fP
 |(k,v)::r,n=>bif Nat.beq k n then v else au.get r n
def au.put(env:au)(d:j4)(v:W):au:=match d with|some t=>(t,v)::env|none=>env
def avQ(k:Nat)(v:W)(r:au)(n:Nat):au.get ((k,v)::r) n=if k=n then v else au.get r n:=by
 simp only[au.get];by_cases h:k=n
 ·subst h;simp
 ·have:Nat.beq k n=false:=by rw[←Bool.not_eq_true,Nat.beq_eq];exact h
  simp[this,h]
def avA(k:Nat)(v:cE)(r:ag)(n:Nat):ag.get ((k,v)::r) n=if k=n then some v else ag.get r n:=by
 simp only[ag.get];by_cases h:k=n
 ·subst h;simp
 ·have:Nat.beq k n=false:=by rw[←Bool.not_eq_true,Nat.beq_eq];exact h
  simp[this,h]
mutual
def mY:Value→W
 |.int k n=>.int k n
 |.bool b=>.bool b
 |.string s=>.str s
 |.slice none 0 0=>.c6
 |.pointer none=>.oC
 |.agg ⟨cs⟩=>.agg (s5 cs)
 |_=>.fP
def s5:dQ→List W
 |[]=>[]
 |x::r=>mY x::s5 r
end
mutual
def PK(I:bG)(β:Nat→Value):∀v,aC I β (mY v) v
 |.int k n=>by simp[mY,aC,bm]
 |.bool b=>by simp[mY,aC,bm]
 |.string s=>by simp[mY,aC,bm]
 |.slice none 0 0=>by simp[mY,aC,bm]
 |.slice none 0 (n+1)=>by simp[mY,aC]
 |.slice none (m+1) n=>by simp[mY,aC]
 |.slice (some a) m n=>by simp[mY,aC]
 |.pointer none=>by simp[mY,aC,bm]
 |.pointer (some a)=>by simp[mY,aC]
 |.agg ⟨cs⟩=>by simp only[mY,aC];exact⟨_,rfl,Kj I β cs⟩
 |.float _ _=>by simp[mY,aC]
 |.complex _ _ _=>by simp[mY,aC]
 |.map _=>by simp[mY,aC]
 |.chan _=>by simp[mY,aC]
 |.func _ _ _=>by simp[mY,aC]
 |.nilFunc=>by simp[mY,aC]
 |.iface _ _=>by simp[mY,aC]
 |.nilIface=>by simp[mY,aC]
 |.tuple _=>by simp[mY,aC]
def Kj(I:bG)(β:Nat→Value):∀vs,b8 I β (s5 vs) vs
 |[]=>by simp[s5,b8]
 |x::r=>by simp only[s5,b8];exact⟨x,r,rfl,PK I β x,Kj I β r⟩
end
def au.ev(env:au):Operand→W
 |.tmp t=>env.get t
 |.const v=>mY v
 |.func f=>.fn f []
 |.global _=>.fP
structure cR where
 P:Program
 N:Nat
 ids:dI
structure fO where
 B:Nat
 w0:World
 I0:bG
 wE:dI
 xY:Nat→Value
def Place(cx:fO)(b:Nat):Prop:=cx.B≤b∨b∈cx.wE
def l8(cx:fO)(I:bG)(w:World):jo→Value→Prop
 |.sl T sz xs,v=>(v=.slice none 0 0∧xs=[])∨
   ∃b aV arr,v=.slice (some ⟨b,0,none⟩) xs.length aV∧xs.length≤aV∧aV≤maxLen∧w.heap[b]?=some (.cells arr T (0,0))∧arr.size=aV*sz∧
    ds I xs.flatten (arr.toList.take (xs.length*sz))∧(∀e∈xs,e.length=sz)∧(∀o:Nat,I b o=none)∧Place cx b
 |.mp _ _ bL,v=>∃r es clock,v=.map (some r)∧w.heap[r]?=some (.map es clock)∧fm I bL es.toList∧(∀o,I r o=none)∧Place cx r∧km es clock
def ko(cx:fO)(I:bG)(w:World):List jo→dQ→Prop
 |[],vs=>vs=[]
 |x::r,vs=>∃aR us,vs=aR::us∧l8 cx I w x aR∧(∀b,cb aR=some b→b∉us.filterMap cb)∧ko cx I w r us
def je(β:Nat→Value)(Z cN:dQ):Option (j4×Nat)→Prop
 |none=>cN=Z
 |some (none,_)=>cN=Z
 |some (some i,t)=>i<Z.length∧β t≠.nilFunc∧cN=Z.set i (β t)
def mj(I:bG):List W→dQ→nc→Prop
 |[],vs,es=>vs=[]∧es=[]
 |k::ks,vs,es=>∃v us e jD,vs=v::us∧es=e::jD∧bm I k e.key∧e.val=v∧mj I ks us jD
def Oz(sz lZ:Nat)(Z vs:dQ):dQ:=vs.mapIdx λj v=>if j%sz=lZ then Z.getD (j / sz) v else v
def bb(cx:fO)(I:bG)(β:Nat→Value)(w:World)(d:Nat):cE→Prop
  |.cells T cs=>β d=.nilFunc∨∃b arr,β d=.pointer (some ⟨b,0,none⟩)∧w.heap[b]?=some (.cells arr T (0,0))∧b8 I β cs arr.toList∧(∀o,I b o=none)∧Place cx b
  |.slice T sz xs k cT=>β d=.nilFunc∨(β d=.slice none 0 0∧xs=[]∧k=0)∨
      ∃b aV arr,β d=.slice (some ⟨b,0,none⟩) xs.length aV∧xs.length≤aV∧aV≤maxLen∧w.heap[b]?=some (.cells arr T (0,0))∧arr.size=aV*sz∧
        ds I xs.flatten (arr.toList.take (xs.length*sz))∧(∀e∈xs,e.length=sz)∧k≤xs.length∧
        (cT=true→∀o,o<xs.length*sz→I b o=arr[o]?)∧(∀o,k*sz≤o→I b o=none)∧Place cx b
  |.map _ _ bL=>β d=.nilFunc∨∃r es clock,β d=.map (some r)∧w.heap[r]?=some (.map es clock)∧fm I bL es.toList∧(∀o,I r o=none)∧Place cx r∧km es clock
  |.k3 _ _ bL=>β d=.nilFunc∨∃r es clock,β d=.map (some r)∧I r none=some (qF es clock)∧fm I bL es.toList∧Place cx r∧km es clock
  |.hM es clock _ _ bL=>β d=.nilFunc∨∃r,β d=.map (some r)∧w.heap[r]?=some (.map es clock)∧fm I bL es.toList∧(∀o,I r o=none)∧Place cx r∧km es clock
  |.iter cW si kX seen=>β d=.nilFunc∨∃r gd,β d=.pointer (some ⟨r,0,none⟩)∧cb (β cW)=some gd∧w.heap[r]?=some (.mapIter (some gd) si seen kX)∧(∀o,I r o=none)∧Place cx r
  |.hdr cW n=>β d=.pointer none∧∃a c,β cW=.slice a n c
  |.cL fh=>β d=.nilFunc∨∃Z:jc,β d=.tuple Z∧ko cx I w fh Z.toList
  |.e9 T e n dk=>β d=.nilFunc∨∃b aV arr Z,β d=.slice (some ⟨b,0,none⟩) n aV∧n≤aV∧aV≤maxLen∧w.heap[b]?=some (.cells arr T (0,0))∧arr.size=aV∧
        β e=.tuple Z∧Z.size=n∧je β Z.toList (arr.toList.take n) dk∧(∀o:Nat,I b o=none)∧Place cx b
  |.iF T sz xs lZ e dk=>β d=.nilFunc∨∃b aV arr Z vs,β d=.slice (some ⟨b,0,none⟩) xs.length aV∧xs.length≤aV∧aV≤maxLen∧w.heap[b]?=some (.cells arr T (0,0))∧arr.size=aV*sz∧
        β e=.tuple Z∧(lZ<sz→Z.size=xs.length)∧(ds I xs.flatten vs∧(∀e∈xs,e.length=sz)∧je β (Oz sz lZ Z.toList vs) (arr.toList.take (xs.length*sz)) dk)∧(∀o:Nat,I b o=none)∧Place cx b
  |.fQ _ _ e keys dk js=>β d=.nilFunc∨∃r es clock Z cN,β d=.map (some r)∧w.heap[r]?=some (.map es clock)∧β e=.tuple Z∧je β Z.toList cN dk∧mj I keys cN es.toList∧
        (∀o,I r o=none)∧Place cx r∧km es clock∧(∀q,js=some q→q=(es,clock))
  |.hU T xs t=>β d=.nilFunc∨∃b aV arr,β d=.slice (some ⟨b,0,none⟩) (xs.length+1) aV∧xs.length+1≤aV∧aV≤maxLen∧w.heap[b]?=some (.cells arr T (0,0))∧arr.size=aV∧
        ds I xs.flatten (arr.toList.take xs.length)∧(∀e∈xs,e.length=1)∧arr[xs.length]?=some (β t)∧β t≠.nilFunc∧(∀o:Nat,I b o=none)∧Place cx b
  |.vec T xs=>β d=.nilFunc∨∃b arr,β d=.pointer (some ⟨b,0,none⟩)∧w.heap[b]?=some (.cells arr T (0,0))∧arr.toList=xs.map (Value.int .i64)∧(∀o,I b o=none)∧Place cx b
  |.kE es clock bL seen=>β d=.nilFunc∨∃r gd,β d=.pointer (some ⟨r,0,none⟩)∧w.heap[r]?=some (.mapIter (some gd) clock seen clock)∧I gd none=some (qF es clock)∧fm I bL es.toList∧km es clock∧(∀o,I r o=none)∧Place cx r
  |.win T sz xs=>β d=.nilFunc∨(β d=.slice none 0 0∧xs=[])∨
      ∃b gO aV arr,β d=.slice (some ⟨b,gO,none⟩) xs.length aV∧xs.length≤aV∧aV≤maxLen∧w.heap[b]?=some (.cells arr T (0,0))∧(xs.length<aV→gO+aV*sz≤arr.size)∧
        kf I b xs gO∧(∀e∈xs,e.length=sz)∧(xs.length<aV→∀o,gO+xs.length*sz≤o→I b o=none)∧Place cx b
variable {cx:fO}{w:World}
def l8.go{rH:fO}{bq:bG}{w':World}{x:jo}{v:Value}(hle:cV I bq)(U:∀b,cb v=some b→(b<w.heap.size→w'.heap[b]?=w.heap[b]?)∧(∀o,bq b o=I b o)∧(Place cx b→Place rH b))(h:l8 cx I w x v):l8 rH bq w' x v:=by
 cases x with
 |sl T sz xs=>
  rcases h with h|⟨b,aV,arr,h1,D,aq,aZ,bV,dU,eR,jS,iy⟩
  ·exact .inl h
  ·obtain⟨dc,dg,gx⟩:=U b (by rw[h1];rfl);exact .inr ⟨b,aV,arr,h1,D,aq,(dc (Array.getElem?_eq_some_iff.1 aZ).1).trans aZ,bV,ni hle _ _ dU,eR,λo=>(dg o).trans (jS o),gx iy⟩
 |mp K E bL=>
  obtain⟨r,es,clock,h1,D,aq,aZ,bV,dU⟩:=h;obtain⟨dc,dg,gx⟩:=U r (by rw[h1];rfl);exact⟨r,es,clock,h1,(dc (Array.getElem?_eq_some_iff.1 D).1).trans D,n1 hle _ _ aq,λo=>(dg o).trans (aZ o),gx bV,dU⟩
def ko.go{cx rH:fO}{I bq:bG}{w w':World}(hle:cV I bq):∀{fh:List jo} {vs:dQ},(∀b∈vs.filterMap cb,(b<w.heap.size→w'.heap[b]?=w.heap[b]?)∧(∀o,bq b o=I b o)∧(Place cx b→Place rH b))→ko cx I w fh vs→ko rH bq w' fh vs
 |[],_,_,h=>h
 |x::r,vs,U,h=>by
  obtain⟨aR,us,rfl,h1,D,aq⟩:=h;refine⟨aR,us,rfl,h1.go hle λb nt=>U b ?_,D,ko.go hle (λb ic=>U b ?_) aq⟩
  ·simp[nt]
  ·rw[filterMap_cons];split
   ·exact ic
   ·exact mem_cons_of_mem _ ic
def mj.mono{I bq:bG}(hle:cV I bq):∀{ks:List W} {vs:dQ} {es:nc},mj I ks vs es→mj bq ks vs es
 |[],_,_,h=>h
 |k::ks,vs,es,h=>by
  obtain⟨v,us,e,jD,h1,D,aq,aZ,bV⟩:=h;exact⟨v,us,e,jD,h1,D,kK hle k _ aq,aZ,mj.mono hle bV⟩
variable {β β':Nat→Value}
def je.hle{Z cN:dQ}{dk:Option (j4×Nat)}(U:h5 β β')(h:je β Z cN dk):je β' Z cN dk:=by
 cases dk with
 |none=>exact h
 |some q=>
  obtain⟨i,t⟩:=q;cases i with
  |none=>exact h
  |some i=>
   obtain⟨h1,D,aq⟩:=h;rcases U t with e|e
   ·exact absurd e D
   ·exact⟨h1,by rw[e];exact D,by rw[e];exact aq⟩
def bb.heap{cx:fO}{I:bG}{β:Nat→Value}{w w':World}{d:Nat}{o:cE}(e:w'.heap=w.heap)(h:bb cx I β w d o):bb cx I β w' d o:=by
 cases o with
 |cL fh=>
  simp only[bb]at h ⊢;rcases h with q|⟨Z,ak,ax⟩
  ·exact .inl q
  ·exact .inr ⟨Z,ak,ax.go (cV.refl I) λb _=>⟨λ_=>by rw[e],λ_=>rfl,id⟩⟩
 |_=>simpa only[bb,e]using h
def bG.on(I:bG)(f:Nat→Nat→Option Value):bG:=λb o=>match o with
 |none=>I b none
 |some o=>f b o
structure cz(G:cR)(cx:fO)(I:bG)(β:Nat→Value)(σ:ag)(w:World):Prop where
 good:∀b (o:Nat) v,I b o=some v→w.cell? ⟨b,o,none⟩=some v
 iB:∀b v,I b none=some v→∃es clock,w.heap[b]?=some (.map es clock)∧v=qF es clock
 kg:cV cx.I0 I
 jX:∀b,b<cx.B→b∉cx.wE→∀o,I b o=cx.I0 b o
 frame:∀b,b<cx.B→b∉cx.wE→w.heap[b]?=cx.w0.heap[b]?
 size:cx.B≤w.heap.size
 tape:w.tape=cx.w0.tape
 os:w.os=cx.w0.os
 output:w.output=cx.w0.output
 drawn:cx.w0.drawn≤w.drawn
 c4:∀d o,σ.get d=some o→bb cx I β w d o
 ee:∀d dO,(σ.get d).isSome→(σ.get dO).isSome→d≠dO→∀b∈dA (β d),b∉dA (β dO)
 keep:∀d∈G.ids,β d=cx.xY d
def pN(P:Program)(Φ:Value→World→Prop):Result Next→Prop
 |.ok (.value v) w'=>Φ v w'
 |.ok .skip w'=>Φ undef w'
 |.ok (.enter f args) w'=>Calls P f args w' (λe Bd=>∃v,e=.returned v∧Φ v Bd)
 |_=>False
def pN.wp{P:Program}{o:Oper}{a:Act}{w:World}{Φ:Value→World→Prop}{K:Act→World→Prop}{Q:Exit→Act→World→Prop}
  (h:pN P Φ ((execOp a.eval o).run P w)) (hk:∀v w',Φ v w'→K (a.put o.dst v) w'):o.wp P a w K Q:=by
 unfold Oper.wp;generalize (execOp a.eval o).run P w=r at h;cases r with
 |halt x w'=>exact h.elim
 |ok n w'=>
  cases n<;>simp only[pN]at h<;>simp only[Oper.upon]
  case value v=>exact hk _ _ h
  case skip=>exact hk _ _ h
  case enter f args=>
   exact Calls.mono h λe Bd ⟨v,he,aa⟩=>by subst he;exact hk _ _ aa
def Yields(G:cR)(o:Oper)(ev:Operand→W)(σ:ag)(eM R:dI)(b9:W):Prop:=
 ∀(aH:ag) (cx:fO) (I:bG) (β:Nat→Value) (w:World) (bn:Operand→Value),(∀d∈R,aH.get d=σ.get d)→cz G cx I β aH w→(∀d∈eM,β d=.nilFunc)→
  (∀x∈o.op.operands,aC I β (ev x) (bn x))→
  pN G.P (λv w'=>∃bq β',aC bq β' b9 v∧cz G cx bq β' aH w'∧cV I bq∧(∀d,d∉eM→β' d=β d)) ((execOp bn o).run G.P w)
def i2(G:cR)(o:Oper)(ev:Operand→W)(σ:ag)(M news:dI)(Φ:W→ag→Prop):Prop:=
 ∀(cx:fO) (I:bG) (β:Nat→Value) (w:World) (bn:Operand→Value),cz G cx I β σ w→(∀x∈o.op.operands,aC I β (ev x) (bn x))→
  pN G.P (λv w'=>∃b9 aH bq β',Φ b9 aH∧aC bq β' b9 v∧cz G cx bq β' aH w'∧cV I bq∧(∀d,d∉news→β' d=β d)∧(∀d,d∉M→aH.get d=σ.get d)) ((execOp bn o).run G.P w)
mutual
def PA{p:Nat→Bool}(h:∀d,p d=false):∀x:W,x.refs p=false
 |.fP|.undef|.int _ _|.bool _|.str _|.bf _ _|.gq _|.c6|.oC|.e7 _ _|.k7|.c7 _|.arr _=>rfl
 |.agg cs=>by simp only[W.refs];exact AJ h cs
 |.c5 cs=>by simp only[W.refs];exact AJ h cs
 |.fn _ cs=>by simp only[W.refs];exact AJ h cs
 |.own d=>h d
 |.ptr d _=>h d
 |.ja _ d=>h d
 |.dm d=>h d
def AJ{p:Nat→Bool}(h:∀d,p d=false):∀x:List W,qa p x=false
 |[]=>rfl
 |x::r=>by simp only[qa,PA h x,AJ h r,Bool.or_self]
end
def au.clean(p:Nat→Bool):au→Bool
 |[]=>true
 |(_,v)::r=>!v.refs p&&au.clean p r
def n2(p:Nat→Bool):cE→Bool
 |.cells _ cs=>qa p cs
 |.iter cW _ _ _=>p cW
 |.hdr cW _=>p cW
 |.iF _ _ _ _ e h=>p e||(match h with|some (_,t)=>p t|none=>false)
 |.e9 _ e _ h=>p e||(match h with|some (_,t)=>p t|none=>false)
 |.fQ _ _ e _ h _=>p e||(match h with|some (_,t)=>p t|none=>false)
 |.hU _ _ t=>p t
 |_=>false
def ag.clean(p:Nat→Bool):ag→Bool
 |[]=>true
 |(d,v)::r=>!p d&&!n2 p v&&ag.clean p r
def av0{p:Nat→Bool}:∀{env:au},env.clean p=true→∀t,(env.get t).refs p=false
 |[],_,t=>by simp[au.get,W.refs]
 |(k,v)::r,h,t=>by
   simp only[au.clean,Bool.and_eq_true,Bool.not_eq_true']at h;rw[avQ];split
   ·exact h.1
   ·exact av0 h.2 t
def avI{p:Nat→Bool}:∀{σ:ag},σ.clean p=true→∀d o,σ.get d=some o→p d=false∧n2 p o=false
 |[],_,d,o,e=>by simp[ag.get]at e
 |(k,v)::r,h,d,o,e=>by
   simp only[ag.clean,Bool.and_eq_true,Bool.not_eq_true']at h;rw[avA]at e;split at e
   ·rename_i hk;subst hk;cases e;exact⟨h.1.1,h.1.2⟩
   ·exact avI h.2 d o e
def av9(e:au):e.clean ([]:dI).contains=true:=by
 induction e with
 |nil=>rfl
 |cons x r bu=>simp only[au.clean,bu,PA (p:=([]:dI).contains) (λ_=>rfl) x.2,Bool.not_false,Bool.and_self]
def awe(e:ag):e.clean ([]:dI).contains=true:=by
 induction e with
 |nil=>rfl
 |cons x r bu=>
  have:n2 ([]:dI).contains x.2=false:=by
   obtain⟨d,o⟩:=x;cases o with
   |cells T cs=>exact AJ (λ_=>rfl) _
   |e9 T e n h=>cases h<;>rfl
   |iF T sz xs lZ e h=>cases h<;>rfl
   |fQ K E e keys h js=>cases h<;>rfl
   |_=>rfl
  simp only[ag.clean,bu,this];rfl
def Vw:cE→Bool
 |.hdr _ _=>false
 |_=>true
def xQ(G:cR)(σ:ag)(eM:dI)(σ2:ag)(env:au):Prop:=
 (∀d,d∉eM→σ2.get d=σ.get d)∧(∀d∈eM,d∉G.ids)∧env.clean eM.contains=true∧σ.clean eM.contains=true∧∀d∈eM,∀cW n,σ2.get d≠some (.hdr cW n)
def awa(G:cR)(σ:ag)(env:au):xQ G σ [] σ env:=⟨λ_ _=>rfl,λ_ h=>by simp at h,av9 env,awe σ,λ_ h=>by simp at h⟩
def gY(β:Nat→Value)(eM:dI):Nat→Value:=λd=>if d∈eM then .nilFunc else β d
def bb.beta{d:Nat}{o:cE}{p:Nat→Bool}(U:∀d,p d=false→β' d=β d)(af:p d=false)(he:n2 p o=false)
  (h:bb cx I β w d o):bb cx I β' w d o:=by
 cases o with
 |cells T cs=>
  simp only[bb,U d af]at h ⊢;rcases h with h|⟨b,arr,h1,D,aq,aZ⟩
  ·exact .inl h
  ·exact .inr ⟨b,arr,h1,D,Gh U cs _ he aq,aZ⟩
 |slice T sz xs k cT=>simpa only[bb,U d af]using h
 |map K E bL=>simpa only[bb,U d af]using h
 |win T sz xs=>simpa only[bb,U d af]using h
 |k3 K E bL=>simpa only[bb,U d af]using h
 |hM es clock K E bL=>simpa only[bb,U d af]using h
 |iter cW si kX seen=>simpa only[bb,U d af,U cW he]using h
 |hdr cW n=>simpa only[bb,U d af,U cW he]using h
 |cL fh=>simpa only[bb,U d af]using h
 |hU T xs t=>simpa only[bb,U d af,U t he]using h
 |vec T xs=>simpa only[bb,U d af]using h
 |kE es clock bL seen=>simpa only[bb,U d af]using h
 |e9 T e n dk=>
  simp only[n2,Bool.or_eq_false_iff]at he
  have b0:∀Z cN,je β' Z cN dk↔je β Z cN dk:=λZ cN=>by
   cases dk with
   |none=>exact Iff.rfl
   |some q=>obtain⟨i,t⟩:=q;cases i<;>simp only[je,U t he.2]
  simpa only[bb,U d af,U e he.1,b0]using h
 |iF T sz xs lZ e dk=>
  simp only[n2,Bool.or_eq_false_iff]at he
  have b0:∀Z cN,je β' Z cN dk↔je β Z cN dk:=λZ cN=>by
   cases dk with
   |none=>exact Iff.rfl
   |some q=>obtain⟨i,t⟩:=q;cases i<;>simp only[je,U t he.2]
  simpa only[bb,U d af,U e he.1,b0]using h
 |fQ K E e keys dk js=>
  simp only[n2,Bool.or_eq_false_iff]at he
  have b0:∀Z cN,je β' Z cN dk↔je β Z cN dk:=λZ cN=>by
   cases dk with
   |none=>exact Iff.rfl
   |some q=>obtain⟨i,t⟩:=q;cases i<;>simp only[je,U t he.2]
  simpa only[bb,U d af,U e he.1,b0]using h
def cz.qJ{G:cR}{σ σ2:ag}{eM:dI}{env:au}(h:cz G cx I β σ w)(v:xQ G σ eM σ2 env):
  cz G cx I (gY β eM) σ2 w:=by
 obtain⟨ej,gz,v3,v4,v5⟩:=v
 have U:∀d,eM.contains d=false→gY β eM d=β d:=λd af=>by
  have:d∉eM:=by simpa using af
  simp[gY,this]
 have aX:∀d,d∈eM→gY β eM d=.nilFunc:=λd af=>by simp[gY,af]
 refine{h with c4:=λd o e=>?_,ee:=λd dO e cC cA b=>?_,keep:=λd af=>?_}
 ·by_cases hm:d∈eM
  ·cases o with
   |hdr cW n=>exact absurd e (v5 d hm cW n)
   |_=>simp only[bb];exact .inl (aX d hm)
  ·rw[ej d hm]at e;obtain⟨bk,bK⟩:=avI v4 d o e;exact(h.c4 d o e).beta U bk bK
 ·by_cases hm:d∈eM
  ·simp[aX d hm,OO]
  ·by_cases mA:dO∈eM
   ·simp[aX dO mA,OO]
   ·rw[ej d hm]at e;rw[ej dO mA]at cC;rw[U d (by simpa using hm),U dO (by simpa using mA)];exact h.ee d dO e cC cA b
 ·have:d∉eM:=λhm=>gz d hm af;rw[U d (by simpa using this)];exact h.keep d af
def j2(ops:mg)(o:Oper)(env:au):Prop:=
 match o.guard with
 |none=>True
 |some (j,want)=>∃eN hF,ops[j]?=some eN∧eN.dst=some hF∧env.get hF=.bool want
def ny(ops:mg)(o:Oper)(env:au):Prop:=
 match o.guard with
 |none=>False
 |some (j,want)=>∃eN hF,ops[j]?=some eN∧eN.dst=some hF∧(env.get hF=.bool (!want)∨env.get hF=.undef)
structure oo where
 fR:Bool
 T:su
 es:dI
def u5(s:oo)(e:Nat)(M:dI):List (Nat×dI)→Bool
 |[]=>true
 |(i,R)::r=>((s.T.getD e []).contains i||R.all (λd=>!M.contains d))&&u5 s e M r
def h4(G:cR)(ops:mg)(s:oo):List (Nat×dI)→dI→au→ag→(au→ag→Prop)→Prop
 |_,[],env,σ,K=>K env σ
 |log,i::l,env,σ,K=>∃o,ops[i]?=some o∧
   ((ny ops o env∧(s.fR=true→i∉s.es)∧h4 G ops s ((i,[])::log) l (env.put o.dst .undef) σ K)∨
    (j2 ops o env∧(s.fR=true→i∉s.es)∧∃eM R b9 σ2,xQ G σ eM σ2 env∧(∀d∈R,(σ2.get d).isSome)∧(∀d∈eM,d∈R)∧Yields G o env.ev σ2 eM R b9∧
     h4 G ops s ((i,R)::log) l (env.put o.dst b9) σ2 K)∨
    (j2 ops o env∧(s.fR=true→i∈s.es)∧∃M news Φ,i2 G o env.ev σ M news Φ∧(s.fR=true→u5 s i M log=true)∧env.clean news.contains=true∧(∀d∈news,d∉G.ids∧σ.get d=none)∧
     ∀b9 aH,Φ b9 aH→h4 G ops s log l (env.put o.dst b9) aH K)∨
    (ny ops o env∧(s.fR=true→i∈s.es)∧h4 G ops s log l (env.put o.dst .undef) σ K))
def mC(I:bG)(β:Nat→Value)(env:au)(a:Act):Prop:=∀t,aC I β (env.get t) (a.tmps.getD t undef)
def mC.ev{I:bG}{β:Nat→Value}{env:au}{a:Act}(h:mC I β env a)(x:Operand):aC I β (env.ev x) (a.eval x):=by
 cases x with
 |tmp t=>exact h t
 |const v=>exact PK I β v
 |global g=>simp[au.ev,aC]
 |func f=>simp[au.ev,Act.eval,aC,b8]
def Gp(a:Act)(d:Nat)(v:Value)(t:Nat)(af:d<a.tmps.size):(a.put (some d) v).tmps.getD t undef=if d=t then v else a.tmps.getD t undef:=by
 simp only[Act.put];by_cases h:d=t
 ·subst h;simp[Array.getD_eq_getD_getElem?,af]
 ·simp[h,Array.getD_eq_getD_getElem?,Array.getElem?_setIfInBounds_ne h]
end
section
def th(G:cR)(cx:fO)(env:au)(σ:ag)(a:Act)(w:World):Prop:=
 ∃I β,cz G cx I β σ w∧mC I β env a∧a.tmps.size=G.N∧a.defers=[]
def Rg{G:cR}{ops:mg}{o:Oper}{env:au}{a:Act}(Z:a.tmps.size=G.N)(sI:∀(j:Nat) (eN:Oper) (d:Nat),ops[j]?=some eN→eN.dst=some d→d<G.N)
  (aI:∀(j:Nat) (want:Bool),o.guard=some (j,want)→∀(eN:Oper) (hF:Nat),ops[j]?=some eN→eN.dst=some hF→∀b,(env.get hF=.bool b→a.tmps.getD hF undef=.bool b)∧(env.get hF=.undef→a.tmps.getD hF undef=undef)) :
  (j2 ops o env→Region.wanted o (yielded ops a.tmps)=true)∧(ny ops o env→Region.wanted o (yielded ops a.tmps)=false):=by
 unfold j2 ny Region.wanted;cases bw:o.guard with
 |none=>exact⟨λ_=>rfl,λh=>h.elim⟩
 |some N8=>
  obtain⟨j,want⟩:=N8
  have key:∀(eN:Oper) (hF:Nat),ops[j]?=some eN→eN.dst=some hF→∀v,a.tmps.getD hF undef=v→yielded ops a.tmps j=(match v with|.bool b=>some b|_=>none):=by
   intro eN hF h1 D v aa;have bS:=sI j eN hF h1 D;have:a.tmps[hF]?=some v:=by
    rw[Array.getD_eq_getD_getElem?]at aa;have aq:hF<a.tmps.size:=by omega
    rw[Array.getElem?_eq_getElem aq]at aa ⊢;simpa using aa
   unfold yielded;simp only[h1,Option.bind_some,D,this];cases v<;>rfl
  constructor
  ·rintro⟨eN,hF,h1,D,aq⟩;have:=(aI j want bw eN hF h1 D want).1 aq;simp only[key eN hF h1 D _ this];simp
  ·rintro⟨eN,hF,h1,D,aq⟩;rcases aq with aq|aq
   ·have:=(aI j want bw eN hF h1 D (!want)).1 aq;simp only[key eN hF h1 D _ this];cases want<;>rfl
   ·have:=(aI j want bw eN hF h1 D want).2 aq;simp only[key eN hF h1 D _ this];rfl
def mC.guard{I:bG}{β:Nat→Value}{env:au}{a:Act}(h:mC I β env a)(d:Nat)(b:Bool):
  (env.get d=.bool b→a.tmps.getD d undef=.bool b)∧(env.get d=.undef→a.tmps.getD d undef=undef):=by
 have:=h d;constructor<;>intro e<;>rw[e]at this<;>simpa [aC,bm]using this
def mC.put{I:bG}{β:Nat→Value}{env:au}{a:Act}{b9:W}{v:Value}(h:mC I β env a)(dst:j4)(af:∀d,dst=some d→d<a.tmps.size)(aa:aC I β b9 v):
  mC I β (env.put dst b9) (a.put dst v):=by
 cases dst with
 |none=>exact h
 |some d=>
  intro t;rw[Gp a d v t (af d rfl)];simp only[au.put,avQ];split
  ·exact aa
  ·exact h t
def Gv(a:Act)(dst:j4)(v:Value):(a.put dst v).tmps.size=a.tmps.size:=by
 cases dst<;>simp[Act.put]
def F5(a:Act)(dst:j4)(v:Value):(a.put dst v).defers=a.defers:=by
 cases dst<;>simp[Act.put]
def mC.mono{I bq:bG}{β β':Nat→Value}{env:au}{a:Act}(h:mC I β env a)(hi:cV I bq)(U:h5 β β'):mC bq β' env a:=
 λt=>Gn hi U _ _ (h t)
def mC.beta{I:bG}{β β':Nat→Value}{env:au}{a:Act}{p:Nat→Bool}(h:mC I β env a)(U:∀d,p d=false→β' d=β d)(ah:env.clean p=true):mC I β' env a:=
 λt=>xh U _ _ (av0 ah t) (h t)
def Kn(G:cR)(ops:mg)(s:oo)(Q:Exit→Act→World→Prop)(sI:∀(j:Nat) (eN:Oper) (d:Nat),ops[j]?=some eN→eN.dst=some d→d<G.N)(K:au→ag→Prop)(cx:fO)
  (g4:∀env σ a w,K env σ→th G cx env σ a w→Q .normal a w) :
  ∀(l:dI) (log:List (Nat×dI)) (env:au) (σ:ag) (a:Act) (w:World),h4 G ops s log l env σ K→th G cx env σ a w→wpOps G.P ops Q l a w
 |[],log,env,σ,a,w,h,aI=>g4 _ _ _ _ h aI
 |i::l,log,env,σ,a,w,h,aI=>by
  obtain⟨o,an,h⟩:=h;have zk:∀d,o.dst=some d→d<a.tmps.size:=λd af=>by obtain⟨_,_,_,_,aq,_⟩:=aI;rw[aq];exact sI i o d an af
  simp only[wpOps,an];obtain⟨I,β,av,b5,Z,Nu⟩:=aI;have L4:=Rg (o:=o) (env:=env) Z sI (λj want _ eN hF _ _ b=>b5.guard hF b)
  have skip:∀log,ny ops o env→h4 G ops s log l (env.put o.dst .undef) σ K→
    if Region.wanted o (yielded ops a.tmps)=true then o.wp G.P a w (wpOps G.P ops Q l) Q∨o.asks G.P a w∧LetsOut Q else wpOps G.P ops Q l (a.put o.dst undef) w:=by
   intro log NT h;rw[L4.2 NT];simp only[Bool.false_eq_true,if_false];exact Kn G ops s Q sI K cx g4 l _ _ _ _ _ h ⟨I,β,av,b5.put _ zk (by simp[aC,bm]),by rw[Gv];exact Z,by rw[F5];exact Nu⟩
  rcases h with⟨h1,_,D⟩|⟨h1,_,eM,R,b9,σ2,aa,c3,sH,hZ,D⟩|⟨h1,_,M,news,Φ,fs,_,ah,yq,D⟩|⟨h1,_,D⟩
  ·exact skip _ h1 D
  ·rw[L4.1 h1];simp only[if_true];refine .inl (pN.wp (Φ:=λv w'=>∃bq β',aC bq β' b9 v∧cz G cx bq β' σ2 w'∧cV I bq∧(∀d,d∉eM→β' d=gY β eM d)) ?_ ?_)
   ·have rP:=av.qJ aa
    have U:∀d,eM.contains d=false→gY β eM d=β d:=λd af=>by
     have:d∉eM:=by simpa using af
     simp[gY,this]
    exact hZ σ2 cx I (gY β eM) w a.eval (λ_ _=>rfl) rP (λd af=>by simp[gY,af]) (λx _=>(b5.beta U aa.2.2.1).ev x)
   ·rintro v w' ⟨bq,β',sK,fU,hle,oR⟩
    have U:∀d,eM.contains d=false→gY β eM d=β d:=λd af=>by
     have:d∉eM:=by simpa using af
     simp[gY,this]
    have b0:h5 (gY β eM) β':=λd=>by
     by_cases hm:d∈eM
     ·left;simp[gY,hm]
     ·right;exact oR d hm
    exact Kn G ops s Q sI K cx g4 l _ _ _ _ _ D ⟨bq,β',fU,((b5.beta U aa.2.2.1).mono hle b0).put _ zk sK,by rw[Gv];exact Z,by rw[F5];exact Nu⟩
  ·rw[L4.1 h1];simp only[if_true];refine .inl (pN.wp (fs cx I β w a.eval av (λx _=>b5.ev x)) ?_);rintro v w' ⟨b9,aH,bq,β',NZ,sK,fU,hle,oR,_⟩;have anA:mC bq β' env a:=(b5.beta (p:=news.contains) (λd af=>oR d (by simpa using af)) ah).mono hle (h5.refl _);exact Kn G ops s Q sI K cx g4 l _ _ _ _ _ (D b9 aH NZ) ⟨bq,β',fU,anA.put _ zk sK,by rw[Gv];exact Z,by rw[F5];exact Nu⟩
  ·exact skip _ h1 D
def xD(N:Nat)(ops:mg):Bool:=ops.toList.all λo=>match o.dst with|some d=>Nat.blt d N|none=>true
def Y9{N:Nat}{ops:mg}(h:xD N ops=true):∀(j:Nat) (eN:Oper) (d:Nat),ops[j]?=some eN→eN.dst=some d→d<N:=by
 intro j eN d aY af;have hm:eN∈ops.toList:=by simpa using Array.mem_of_getElem? aY
 have:=List.all_eq_true.1 h eN hm;simp only[af]at this;exact(Iff.of_eq Nat.blt_eq).1 this
def oE(ops:mg)(o:Oper)(t:Nat):Bool:=(o.looksAt ops).contains t
def HB(s:oo)(i j:Nat)(kT eN:Oper)(ops:mg):Bool:=
 match kT.dst with
 |none=>true
 |some t=>
  (i==j&&(s.es.contains i||!oE ops eN t)) ||
  (!(i==j)&&(!(oE ops eN t)||(s.T.getD j []).contains i||(s.es.contains i&&(s.T.getD i []).contains j)) &&
   (!(eN.dst==some t)||(s.es.contains i&&s.es.contains j&&((s.T.getD j []).contains i||(s.T.getD i []).contains j))))
def xw(s:oo):dI→Bool
 |[]=>true
 |i::l=>l.all (λj=>!(s.T.getD i []).contains j&&!(i==j)&&(!s.es.contains i||(s.T.getD j []).contains i))&&xw s l
def L5(ops:mg)(T:su):Bool:=
 (List.range ops.size).all λj=>match ops[j]? with
  |none=>false
  |some eN=>eN.after.toList.all (λe=>!Region.binds .any e||Nat.blt e.on j) &&
    (T.getD j []).all λi=>eN.after.toList.any λe=>Region.binds .any e&&(e.on==i||(T.getD e.on []).contains i)
def HC(N:Nat)(ops:mg)(s:oo)(l:dI):Bool:=
 xD N ops&&L5 ops s.T&&xw s l&&(List.range ops.size).all (λi=>l.contains i)&&l.all (λi=>Nat.blt i ops.size)&&(s.T.length==ops.size) &&
 (List.range ops.size).all λi=>(List.range ops.size).all λj=>match ops[i]?,ops[j]? with
  |some kT,some eN=>HB s i j kT eN ops
  |_,_=>true
section any
variable {G:cR}{ops:mg}{s:oo}
structure Stat(G:cR)(ops:Array Oper)(s:oo):Prop where
 dst:∀(j:Nat) (eN:Oper) (d:Nat),ops[j]?=some eN→eN.dst=some d→d<G.N
 down:∀(j:Nat) (eN:Oper),ops[j]?=some eN→∀e∈eN.after,Region.binds .any e=true→e.on<j
 tab:∀(j:Nat) (eN:Oper),ops[j]?=some eN→∀i∈s.T.getD j [],∃e∈eN.after,Region.binds .any e=true∧(e.on=i∨i∈s.T.getD e.on [])
 size:s.T.length=ops.size
 read:∀(i j:Nat) (kT eN:Oper) (t:Nat),ops[i]?=some kT→ops[j]?=some eN→kT.dst=some t→i≠j→oE ops eN t=true→i∈s.T.getD j []∨(i∈s.es∧j∈s.T.getD i [])
 self:∀(j:Nat) (eN:Oper) (t:Nat),ops[j]?=some eN→eN.dst=some t→j∉s.es→oE ops eN t=false
 one:∀(i j:Nat) (kT eN:Oper) (t:Nat),ops[i]?=some kT→ops[j]?=some eN→kT.dst=some t→eN.dst=some t→i≠j→i∈s.es∧j∈s.es
def awR{l:dI}(h:HC G.N ops s l=true):Stat G ops s∧xw s l=true∧(∀i,i<ops.size↔i∈l):=by
 simp only[HC,Bool.and_eq_true,List.all_eq_true,List.mem_range,beq_iff_eq]at h;obtain⟨⟨⟨⟨⟨⟨h1,D⟩,aq⟩,aZ⟩,bV⟩,dU⟩,eR⟩:=h;refine⟨{dst:=Y9 h1,down:=?_,tab:=?_,size:=dU,read:=?_,self:=?_,one:=?_},aq,λi=>⟨λhi=>by simpa using aZ i hi,λhi=>(Iff.of_eq Nat.blt_eq).1 (bV i hi)⟩⟩
 ·intro j eN aY e he U;have tO:j<ops.size:=(Array.getElem?_eq_some_iff.1 aY).1;simp only[L5,List.all_eq_true,List.mem_range]at D;have:=D j tO;simp only[aY,Bool.and_eq_true,List.all_eq_true]at this;have:=this.1 e (by simpa using he);simp only[U,Bool.not_true,Bool.false_or]at this;exact(Iff.of_eq Nat.blt_eq).1 this
 ·intro j eN aY i hi;have tO:j<ops.size:=(Array.getElem?_eq_some_iff.1 aY).1;simp only[L5,List.all_eq_true,List.mem_range]at D;have:=D j tO;simp only[aY,Bool.and_eq_true,List.all_eq_true]at this;have:=this.2 i hi;simp only[List.any_eq_true,Bool.and_eq_true,Bool.or_eq_true,beq_iff_eq]at this;obtain⟨e,he,U,b0⟩:=this;exact⟨e,by simpa using he,U,by simpa using b0⟩
 ·intro i j kT eN t hi aY af cA aJ;have:=eR i (Array.getElem?_eq_some_iff.1 hi).1 j (Array.getElem?_eq_some_iff.1 aY).1;have U:(i==j)=false:=by simpa using cA
  simp only[hi,aY,HB,af,U,aJ,Bool.not_true,Bool.not_false,Bool.true_and,Bool.false_and,Bool.false_or,Bool.or_eq_true,Bool.and_eq_true,false_or]at this;have:=this.1;simpa using this
 ·intro j eN t aY af kQ;have:=eR j (Array.getElem?_eq_some_iff.1 aY).1 j (Array.getElem?_eq_some_iff.1 aY).1;simp only[aY,HB,af,BEq.rfl,Bool.true_and,Bool.not_true,Bool.false_and,Bool.or_false,Bool.or_eq_true,List.contains_iff_mem,kQ,false_or,Bool.not_eq_true']at this;exact this
 ·intro i j kT eN t hi aY af eB cA;have:=eR i (Array.getElem?_eq_some_iff.1 hi).1 j (Array.getElem?_eq_some_iff.1 aY).1;have U:(i==j)=false:=by simpa using cA
  simp only[hi,aY,HB,af,eB,U,Bool.not_false,Bool.true_and,Bool.false_and,Bool.false_or,Bool.or_eq_true,Bool.and_eq_true,false_or,BEq.rfl,Bool.not_true,Bool.false_eq_true]at this;have:=this.2;simp only[List.contains_iff_mem]at this;exact⟨this.1.1,this.1.2⟩
def HW(G:cR)(ops:mg)(s:oo)(env:au)(σ:ag)(β:Nat→Value)(log:List (Nat×dI))(i:Nat)(eM:dI):Prop:=
 ∃o b9,ops[i]?=some o∧i∉s.es∧(∀t,o.dst=some t→env.get t=b9)∧
  ((ny ops o env∧b9=.undef∧eM=[])∨
   (j2 ops o env∧∃R,Yields G o env.ev σ eM R b9∧(i,R)∈log∧(∀d∈R,(σ.get d).isSome)∧(∀d∈eM,d∈R∧β d=.nilFunc∧d∉G.ids)))
def El(I:bG)(β:Nat→Value)(ops:mg)(hc:dI)(env:au)(a:Act):Prop:=
 ∀t,(∀i∈hc,∀o,ops[i]?=some o→o.dst≠some t)→aC I β (env.get t) (a.tmps.getD t undef)
def AG{gi:tJ}{j:Nat}:j∈Region.ready .any ops gi↔
  gi.getD j true=false∧∃o,ops[j]?=some o∧∀e∈o.after,Region.binds .any e=true→gi.getD e.on false=true:=mem_ready
def SC{gi:tJ}{i:Nat}(hi:i<gi.size)(b c:Bool):gi.getD i b=gi.getD i c:=by
 simp[Array.getD_eq_getD_getElem?,hi]
def JB(st:Stat G ops s){gi:tJ}(k2:gi.size=ops.size)
  (iD:∀j,gi.getD j false=true→∀i∈s.T.getD j [],gi.getD i false=true) {j:Nat} (aY:j∈Region.ready .any ops gi) :
  ∀i∈s.T.getD j [],gi.getD i false=true:=by
 obtain⟨_,o,an,kH⟩:=AG.1 aY;intro i hi;obtain⟨e,he,U,h⟩:=st.tab j o an i hi;rcases h with h|h
 ·rw[←h];exact kH e he U
 ·exact iD e.on (kH e he U) i h
def ZL(st:Stat G ops s){gi:tJ}(k2:gi.size=ops.size):∀(n j:Nat),j≤n→j<ops.size→gi.getD j true=false→Region.ready .any ops gi≠[]:=by
 intro n;induction n with
 |zero=>
  intro j aY bS w1
  have:j∈Region.ready .any ops gi:=AG.2 ⟨w1,ops[j],Array.getElem?_eq_getElem bS,λe he U=>by
   have:=st.down j _ (Array.getElem?_eq_getElem bS) e he U;omega⟩
  exact ne_nil_of_mem this
 |succ n bu=>
  intro j aY bS w1;by_cases Co:∃i,i<j∧gi.getD i true=false
  ·obtain⟨i,h1,D⟩:=Co;exact bu i (by omega) (by omega) D
  ·have:j∈Region.ready .any ops gi:=AG.2 ⟨w1,ops[j],Array.getElem?_eq_getElem bS,λe he U=>by
    have af:=st.down j _ (Array.getElem?_eq_getElem bS) e he U;have:¬gi.getD e.on true=false:=λb0=>Co ⟨e.on,af,b0⟩;rw[SC (by omega) false true];simpa using this⟩
   exact ne_nil_of_mem this
def awJ{env:au}{dst:j4}{b9:W}{x:Operand}(h:∀t,dst=some t→x≠.tmp t):(env.put dst b9).ev x=env.ev x:=by
 cases dst with
 |none=>rfl
 |some d=>
  cases x with
  |tmp t=>simp only[au.put,au.ev,avQ];rw[if_neg (λe=>h d rfl (by rw[e]))]
  |_=>rfl
def awi{env:au}{dst:j4}{b9:W}{t:Nat}(h:dst≠some t):(env.put dst b9).get t=env.get t:=by
 cases dst with
 |none=>rfl
 |some d=>simp only[au.put,avQ];rw[if_neg (λe=>h (by rw[e]))]
def PL{o:Oper}{t:Nat}(h:(Operand.tmp t)∈o.op.operands):oE ops o t=true:=by
 simp only[oE,List.contains_iff_mem,Oper.looksAt];exact List.mem_append_left _ (List.mem_filterMap.2 ⟨.tmp t,by simpa using h,rfl⟩)
def YY{o eN:Oper}{j:Nat}{want:Bool}{t:Nat}(bw:o.guard=some (j,want))(aY:ops[j]?=some eN)(b5:eN.dst=some t):oE ops o t=true:=by
 simp[oE,Oper.looksAt,bw,aY,b5]
def Yields.ev{o:Oper}{ev WT:Operand→W}{σ:ag}{eM R:dI}{b9:W}(h:∀x∈o.op.operands,WT x=ev x)(ai:Yields G o ev σ eM R b9):Yields G o WT σ eM R b9:=
 λaH cx I β w bn h1 D aq aZ=>ai aH cx I β w bn h1 D aq (λx u=>by rw[←h x u];exact aZ x u)
def Yields.ao3{o:Oper}{ev:Operand→W}{σ σ2:ag}{eM R:dI}{b9:W}(h:∀d∈R,σ2.get d=σ.get d)(ai:Yields G o ev σ eM R b9):Yields G o ev σ2 eM R b9:=
 λaH cx I β w bn h1 D aq aZ=>ai aH cx I β w bn (λd af=>(h1 d af).trans (h d af)) D aq aZ
def j2.put{o:Oper}{env:au}{dst:j4}{b9:W}(h:∀t,dst=some t→oE ops o t=false):(j2 ops o env→j2 ops o (env.put dst b9))∧(ny ops o env→ny ops o (env.put dst b9)):=by
 unfold j2 ny;cases bw:o.guard with
 |none=>exact⟨id,id⟩
 |some N8=>
  obtain⟨j,want⟩:=N8;constructor<;>(rintro⟨eN,hF,h1,D,aq⟩;refine⟨eN,hF,h1,D,?_⟩;rw[awi (λe=>by have:=h hF e;rw[YY bw h1 D]at this;cases this)];exact aq)
def HW.put{env:au}{σ σ2:ag}{β e8:Nat→Value}{log XS:List (Nat×dI)}{i:Nat}{eM:dI}{dst:j4}{b9:W}(h:HW G ops s env σ β log i eM)
  (af:∀o,ops[i]?=some o→∀t,dst=some t→oE ops o t=false∧o.dst≠some t)
  (BO:∀x∈log,x∈XS) (c3:∀R,(i,R)∈log→∀d∈R,(σ.get d).isSome→σ2.get d=σ.get d) (hm:∀d∈eM,(σ.get d).isSome→β d=.nilFunc→e8 d=.nilFunc) :
  HW G ops s (env.put dst b9) σ2 e8 XS i eM:=by
 obtain⟨o,akW,an,kQ,sK,h⟩:=h;refine⟨o,akW,an,kQ,λt b5=>?_,?_⟩
 ·rw[awi (λe=>(af o an t e).2 b5)];exact sK t b5
 ·have aJ:∀t,dst=some t→oE ops o t=false:=λt e=>(af o an t e).1;rcases h with⟨h1,D⟩|⟨h1,R,hZ,Ab,Cg,Af⟩
  ·exact .inl ⟨(j2.put aJ).2 h1,D⟩
  ·refine .inr ⟨(j2.put aJ).1 h1,R,?_,BO _ Ab,λd eB=>?_,λd eB=>?_⟩
   ·refine(hZ.ev λx u=>?_).ao3 (λd eB=>c3 R Ab d eB (Cg d eB));exact awJ λt e vN=>by have:=aJ t e;rw[PL (vN▸u)]at this;cases this
   ·rw[c3 R Ab d eB (Cg d eB)];exact Cg d eB
   ·obtain⟨ak,ax,aO⟩:=Af d eB;exact⟨ak,hm d eB (Cg d ak) ax,aO⟩
def El.ev{I:bG}{β:Nat→Value}{hc:dI}{env:au}{a:Act}(h:El I β ops hc env a){o:Oper}
  (aF:∀i∈hc,∀kT,ops[i]?=some kT→∀t,kT.dst=some t→oE ops o t=false):∀x∈o.op.operands,aC I β (env.ev x) (a.eval x):=by
 intro x u;cases x with
 |tmp t=>
  refine h t λi hi kT uS af=>?_;have:=aF i hi kT uS t af;rw[PL u]at this;cases this
 |const v=>exact PK I β v
 |global g=>simp[au.ev,aC]
 |func f=>simp[au.ev,Act.eval,aC,b8]
def El.want{I:bG}{β:Nat→Value}{hc:dI}{env:au}{a:Act}(st:Stat G ops s)(Z:a.tmps.size=G.N)(h:El I β ops hc env a){o:Oper}
  (aF:∀i∈hc,∀kT,ops[i]?=some kT→∀t,kT.dst=some t→oE ops o t=false) :
  (j2 ops o env→Region.wanted o (yielded ops a.tmps)=true)∧(ny ops o env→Region.wanted o (yielded ops a.tmps)=false):=by
 refine Rg Z st.dst λj want bw eN hF h1 D b=>?_
 have:=h hF λi hi kT uS af=>by
  have:=aF i hi kT uS hF af;rw[YY bw h1 D]at this;cases this
 constructor<;>intro e<;>rw[e]at this<;>simpa [aC,bm]using this
def Za{e:Nat}{M:dI}:∀{log:List (Nat×dI)},u5 s e M log=true→∀i R,(i,R)∈log→i∈s.T.getD e []∨∀d∈R,d∉M
 |[],_,_,_,hm=>by simp at hm
 |(k,S)::r,h,i,R,hm=>by
  simp only[u5,Bool.and_eq_true,Bool.or_eq_true,List.contains_iff_mem,List.all_eq_true]at h;rcases mem_cons.1 hm with e|hm
  ·cases e;rcases h.1 with h1|h1
   ·exact .inl h1
   ·exact .inr λd af=>by have:=h1 d af;simpa using this
  ·exact Za h.2 i R hm
structure Inv(G:cR)(ops:Array Oper)(s:oo)(cx:fO)(m:Nat→List Nat)(l hc:List Nat)(gi:Array Bool)(log:List (Nat×List Nat))(env:au)(σ:ag)(a:Act)(w:World)(I:bG)(β:Nat→Value):Prop where
 qH:gi.size=ops.size
 ord:xw s l=true
 uu:∀i,i<ops.size→(gi.getD i true=false↔i∈hc∨i∈l)
 vz:∀i∈hc,i∉l
 nd:hc.Nodup
 pw:∀i∈hc,∀j∈l,j∉s.T.getD i []
 ps:∀i∈hc,i<ops.size
 ls:∀i∈l,i<ops.size
 cl:∀j,gi.getD j false=true→∀i∈s.T.getD j [],gi.getD i false=true
 tj:∀i∈hc,HW G ops s env σ β log i (m i)
 md:∀i∈hc,∀j∈hc,i≠j→∀d∈m i,d∉m j
 rw:cz G cx I β σ w
 rp:El I β ops hc env a
 sz:a.tmps.size=G.N
 df:a.defers=[]
def PM(gi:tJ)(i j:Nat)(b:Bool)(hi:i<gi.size):(gi.setIfInBounds i true).getD j b=if i=j then true else gi.getD j b:=by
 by_cases h:i=j
 ·subst h;simp[Array.getD_eq_getD_getElem?,hi]
 ·simp[h,Array.getD_eq_getD_getElem?,Array.getElem?_setIfInBounds_ne h]
section inv
variable {cx:fO}{m:Nat→dI}{l hc:dI}{gi:tJ}{log:List (Nat×dI)}{env:au}{σ:ag}{a:Act}{w:World}{I:bG}{β:Nat→Value}
def Inv.PN(inv:Inv G ops s cx m l hc gi log env σ a w I β){i:Nat}(h:i∈hc∨i∈l):gi.getD i false=false:=by
 have hi:i<ops.size:=by rcases h with h|h<;>first|exact inv.ps i h|exact inv.ls i h
 rw[SC (by rw[inv.qH];exact hi) false true];exact(inv.uu i hi).2 h
def Inv.Tz(st:Stat G ops s)(inv:Inv G ops s cx m l hc gi log env σ a w I β){j:Nat}(aY:j∈Region.ready .any ops gi):
  ∀k,(gi.setIfInBounds j true).getD k false=true→∀i∈s.T.getD k [],(gi.setIfInBounds j true).getD i false=true:=by
 obtain⟨_,o,an,_⟩:=AG.1 aY;have tO:j<gi.size:=by rw[inv.qH];exact(Array.getElem?_eq_some_iff.1 an).1
 intro k hk i hi;rw[PM _ _ _ _ tO]at hk ⊢;split
 ·rfl
 ·split at hk
  ·rename_i h;subst h;exact JB st inv.qH inv.cl aY i hi
  ·exact inv.cl k hk i hi
def Inv.O7(st:Stat G ops s)(inv:Inv G ops s cx m l hc gi log env σ a w I β){j:Nat}{o:Oper}(aY:j∈Region.ready .any ops gi)(an:ops[j]?=some o)(G6:j∈hc→j∉s.es):
  ∀i∈hc,∀kT,ops[i]?=some kT→∀t,kT.dst=some t→oE ops o t=false:=by
 intro i hi kT uS t b5;rcases Bool.eq_false_or_eq_true (oE ops o t)with aJ|aJ
 ·exfalso;by_cases jg:i=j
  ·subst jg;have l5:some kT=some o:=uS.symm.trans an;cases l5;have:=st.self i o t uS b5 (G6 hi);rw[this]at aJ;cases aJ
  ·rcases st.read i j kT o t uS an b5 jg aJ with h|⟨h,_⟩
   ·have:=JB st inv.qH inv.cl aY i h;rw[inv.PN (.inl hi)]at this;cases this
   ·obtain⟨_,_,_,kQ,_⟩:=inv.tj i hi;exact kQ h
 ·exact aJ
def Inv.Rx(st:Stat G ops s)(inv:Inv G ops s cx m l hc gi log env σ a w I β){Q:Exit→Act→World→Prop}{K:Act→World→Prop}{j:Nat}(aY:j∈Region.ready .any ops gi)(qy:j∈hc)
    (k:∀gW w' bq β',Inv G ops s cx m l (hc.erase j) (gi.setIfInBounds j true) log env σ gW w' bq β'→K gW w'):wpOp G.P ops Q j K a w:=by
  obtain⟨o,b9,an,kQ,sK,h⟩:=inv.tj j qy;have tO:j<gi.size:=by rw[inv.qH];exact inv.ps j qy
  have Ae:=inv.O7 st aY an (λ_=>kQ);have av:=inv.rp.want st inv.sz Ae;have zk:∀d,o.dst=some d→d<a.tmps.size:=λd af=>by rw[inv.sz];exact st.dst j o d an af
  have next:∀v w' bq β',aC bq β' b9 v→cz G cx bq β' σ w'→cV I bq→(∀d,d∉m j→β' d=β d)→(∀d∈m j,β d=.nilFunc∨β' d=β d)→Inv G ops s cx m l (hc.erase j) (gi.setIfInBounds j true) log env σ (a.put o.dst v) w' bq β':=by
    intro v w' bq β' l9 fU hle U eO
    have b0:h5 β β':=λd=>by
      by_cases af:d∈m j
      · exact eO d af
      · exact .inr (U d af)
    refine{qH:=by simp[inv.qH],ord:=inv.ord,uu:=λi hi=>?_,vz:=λi hi=>inv.vz i (List.mem_of_mem_erase hi),nd:=inv.nd.erase j,
           pw:=λi hi=>inv.pw i (List.mem_of_mem_erase hi),ps:=λi hi=>inv.ps i (List.mem_of_mem_erase hi),ls:=inv.ls,cl:=inv.Tz st aY,tj:=λi hi=>?_,
           md:=λi hi k hk=>inv.md i (List.mem_of_mem_erase hi) k (List.mem_of_mem_erase hk),rw:=fU,rp:=λt b5=>?_,sz:=by rw[Gv];exact inv.sz,df:=by rw[F5];exact inv.df}
    · rw[PM _ _ _ _ tO]
      by_cases jg:j=i
      · subst jg
        simp only[if_true,Bool.true_eq_false,false_iff,not_or];exact⟨λh=>(Nodup.mem_erase_iff inv.nd).1 h|>.1 rfl,inv.vz j qy⟩
      · rw[if_neg jg,inv.uu i hi,Nodup.mem_erase_iff inv.nd]
        constructor
        · rintro(h|h)
          · exact .inl ⟨λe=>jg e.symm,h⟩
          · exact .inr h
        · rintro(h|h)
          · exact .inl h.2
          · exact .inr h
    · have mm:=List.mem_of_mem_erase hi
      have jg:i≠j:=λe=>((Nodup.mem_erase_iff inv.nd).1 hi).1 e;obtain⟨kT,akX,ak,ax,aO,aL⟩:=inv.tj i mm;refine⟨kT,akX,ak,ax,aO,?_⟩;rcases aL with aL|⟨aL,R,bg,bI,b7,cD⟩
      · exact .inl aL
      · refine .inr ⟨aL,R,bg,bI,b7,λd af=>⟨(cD d af).1,?_,(cD d af).2.2⟩⟩
        rw[U d (inv.md i mm j qy jg d af)];exact(cD d af).2.1
    · by_cases aN:o.dst=some t
      · rw[aN,Gp a t v t (by rw[inv.sz];exact st.dst j o t an aN),if_pos rfl,sK t aN]
        exact l9
      · have:(a.put o.dst v).tmps.getD t undef=a.tmps.getD t undef:=by
          cases af:o.dst with
          |none=>rfl
          |some d=>rw[Gp a d v t (zk d af),if_neg (λe=>aN (by rw[af,e]))]
        rw[this];refine Gn hle b0 _ _ (inv.rp t λi hi kT uS=>?_);by_cases jg:i=j
        · subst jg
          rw[an]at uS;cases uS;exact aN
        · exact b5 i ((Nodup.mem_erase_iff inv.nd).2 ⟨jg,hi⟩) kT uS
  unfold wpOp;simp only[an];rcases h with⟨h1,D⟩|⟨h1,R,hZ,BO,Cg,Af⟩
  · rw[av.2 h1]
    simp only[Bool.false_eq_true,if_false];exact k _ _ _ _ (next undef w I β (by rw[D.1];simp[aC,bm]) inv.rw (cV.refl I) (λ_ _=>rfl) (λ_ _=>.inr rfl))
  · rw[av.1 h1]
    simp only[if_true];refine .inl (pN.wp (hZ σ cx I β w a.eval (λ_ _=>rfl) inv.rw (λd af=>(Af d af).2.1) (inv.rp.ev Ae)) ?_);rintro v w' ⟨bq,β',l9,fU,hle,U⟩;exact k _ _ _ _ (next v w' bq β' l9 fU hle U (λd af=>.inl (Af d af).2.1))
def Inv.qJ(st:Stat G ops s){i:Nat}(inv:Inv G ops s cx m (i::l) hc gi log env σ a w I β){o:Oper}(an:ops[i]?=some o)(kQ:i∉s.es){eM R:dI}{b9:W}{σ2:ag}
    (aa:xQ G σ eM σ2 env) (aF:(ny ops o env∧b9=.undef∧eM=[])∨(j2 ops o env∧Yields G o env.ev σ2 eM R b9∧(∀d∈R,(σ2.get d).isSome)∧(∀d∈eM,d∈R))) :
    Inv G ops s cx (λk=>if k=i then eM else m k) l (i::hc) gi ((i,R)::log) (env.put o.dst b9) σ2 a w I (gY β eM):=by
  have mm:i∉hc:=λh=>inv.vz i h (by simp);have qK:=inv.ord;simp only[xw,Bool.and_eq_true,List.all_eq_true,Bool.not_eq_true',List.contains_eq_mem,decide_eq_false_iff_not,beq_eq_false_iff_ne]at qK
  have U:∀d,eM.contains d=false→gY β eM d=β d:=λd af=>by
    have:d∉eM:=by simpa using af
    simp[gY,this]
  have DB:∀d,(σ.get d).isSome→d∉eM:=λd af hm=>by
    obtain⟨x,u⟩:=Option.isSome_iff_exists.1 af;have:=(avI aa.2.2.2.1 d x u).1;simp[hm]at this
  have mA:∀p∈hc,(if p=i then eM else m p)=m p:=λp aF=>by
    have:p≠i:=λe=>by subst e;exact mm aF
    rw[if_neg this]
  refine{qH:=inv.qH,ord:=qK.2,uu:=λk hk=>?_,vz:=λk hk aJ=>?_,nd:=nodup_cons.2 ⟨mm,inv.nd⟩,pw:=λk hk j aY=>?_,ps:=λk hk=>?_,ls:=λk hk=>inv.ls k (by simp[hk]),
         cl:=inv.cl,tj:=λk hk=>?_,md:=λk hk j aY cA d af=>?_,rw:=inv.rw.qJ aa,rp:=λt b5=>?_,sz:=inv.sz,df:=inv.df}
  · rw[inv.uu k hk];simp only[mem_cons]
    constructor
    · rintro(h|h|h)
      · exact .inl (.inr h)
      · exact .inl (.inl h)
      · exact .inr h
    · rintro((h|h)|h)
      · exact .inr (.inl h)
      · exact .inl h
      · exact .inr (.inr h)
  · rcases mem_cons.1 hk with rfl|hk
    · exact(qK.1 k aJ).1.2 rfl
    · exact inv.vz k hk (by simp[aJ])
  · rcases mem_cons.1 hk with rfl|hk
    · exact(qK.1 j aY).1.1
    · exact inv.pw k hk j (by simp[aY])
  · rcases mem_cons.1 hk with rfl|hk
    · exact inv.ls k (by simp)
    · exact inv.ps k hk
  · rcases mem_cons.1 hk with rfl|hk
    · have G6:∀t,o.dst=some t→oE ops o t=false:=λt b5=>st.self k o t an b5 kQ
      refine⟨o,b9,an,kQ,λt b5=>by simp[b5,au.put,avQ],?_⟩;simp only[if_true];rcases aF with⟨h1,D⟩|⟨h1,hZ,c3,sH⟩
      · exact .inl ⟨(j2.put G6).2 h1,D⟩
      · refine .inr ⟨(j2.put G6).1 h1,R,hZ.ev (λx u=>awJ λt e vN=>?_),by simp,c3,λd af=>⟨sH d af,by simp[gY,af],aa.2.1 d af⟩⟩
        have:=G6 t e;rw[PL (vN▸u)]at this;cases this
    · rw[mA k hk]
      refine(inv.tj k hk).put (λok kI t b5=>?_) (λx u=>by simp[u]) (λar8 atv d af Z=>aa.1 d (DB d Z)) (λd af Z aX=>by rw[U d (by simpa using DB d Z)];exact aX);have vI:i≠k:=λe=>mm (e▸hk);constructor
      · rcases Bool.eq_false_or_eq_true (oE ops ok t)with aJ|aJ
        · rcases st.read i k o ok t an kI b5 vI aJ with h|⟨h,_⟩
          · exact absurd h (inv.pw k hk i (by simp))
          · exact absurd h kQ
        · exact aJ
      · exact λe=>kQ (st.one i k o ok t an kI b5 e vI).1
  · have key:∀p∈hc,∀d∈m p,d∉eM:=λp aF d af=>by
      obtain⟨_,_,_,_,_,q⟩:=inv.tj p aF;rcases q with q|⟨_,_,_,_,xB,q⟩
      · rw[q.2.2]at af;simp at af
      · exact DB d (xB d (q d af).1)
    rcases mem_cons.1 hk with fZ|ym
    · subst fZ
      rcases mem_cons.1 aY with MZ|jb
      · exact absurd MZ.symm cA
      · simp only[if_true]at af
        rw[mA j jb];exact λh=>key j jb d h af
    · rw[mA k ym]at af
      rcases mem_cons.1 aY with MZ|jb
      · subst MZ
        simp only[if_true];exact key k ym d af
      · rw[mA j jb]
        exact inv.md k ym j jb cA d af
  · have aN:o.dst≠some t:=b5 i (by simp) o an
    rw[awi aN];exact xh U _ _ (av0 aa.2.2.1 t) (inv.rp t λk hk=>b5 k (by simp[hk]))
def Inv.B5(st:Stat G ops s){i:Nat}(inv:Inv G ops s cx m (i::l) hc gi log env σ a w I β){o:Oper}(an:ops[i]?=some o)(kQ:i∈s.es)(aI:i∈Region.ready .any ops gi){M news:dI}{b9:W}{aH:ag}
    (BO:u5 s i M log=true) (ah:env.clean news.contains=true) (yq:∀d∈news,d∉G.ids∧σ.get d=none) {v:Value} {w':World} {bq:bG} {β':Nat→Value}
    (l9:aC bq β' b9 v) (fU:cz G cx bq β' aH w') (hle:cV I bq) (U:∀d,d∉news→β' d=β d) (sH:∀d,d∉M→aH.get d=σ.get d) :
    Inv G ops s cx m l hc (gi.setIfInBounds i true) log (env.put o.dst b9) aH (a.put o.dst v) w' bq β':=by
  have mm:i∉hc:=λh=>inv.vz i h (by simp);have amW:i<gi.size:=by rw[inv.qH];exact inv.ls i (by simp)
  have qK:=inv.ord;simp only[xw,Bool.and_eq_true,List.all_eq_true,Bool.not_eq_true',List.contains_eq_mem,decide_eq_false_iff_not,beq_eq_false_iff_ne]at qK;have anH:=JB st inv.qH inv.cl aI
  have Xw:∀p∈hc,p∉s.T.getD i []:=λp aF b0=>by
    have:=anH p b0;rw[inv.PN (.inl aF)]at this;cases this
  have zk:∀d,o.dst=some d→d<a.tmps.size:=λd af=>by rw[inv.sz];exact st.dst i o d an af
  refine{qH:=by simp[inv.qH],ord:=qK.2,uu:=λk hk=>?_,vz:=λk hk aJ=>inv.vz k hk (by simp[aJ]),nd:=inv.nd,pw:=λk hk j aY=>inv.pw k hk j (by simp[aY]),ps:=inv.ps,ls:=λk hk=>inv.ls k (by simp[hk]),
         cl:=inv.Tz st aI,tj:=λk hk=>?_,md:=inv.md,rw:=fU,rp:=λt b5=>?_,sz:=by rw[Gv];exact inv.sz,df:=by rw[F5];exact inv.df}
  · rw[PM _ _ _ _ amW]
    by_cases yj:i=k
    · subst yj
      simp only[if_true,Bool.true_eq_false,false_iff,not_or];exact⟨mm,λh=>(qK.1 i h).1.2 rfl⟩
    · rw[if_neg yj,inv.uu k hk]
      simp only[mem_cons];constructor
      · rintro(h|h|h)
        · exact .inl h
        · exact absurd h.symm yj
        · exact .inr h
      · rintro(h|h)
        · exact .inl h
        · exact .inr (.inr h)
  · have vI:i≠k:=λe=>mm (e▸hk)
    have am0:k∉s.es:=by obtain⟨_,_,_,q,_⟩:=inv.tj k hk;exact q
    refine(inv.tj k hk).put (λok kI t b5=>?_) (λx u=>u) (λR c3 d af Z=>?_) (λd af Z Ct=>?_)
    · constructor
      · rcases Bool.eq_false_or_eq_true (oE ops ok t)with aJ|aJ
        · rcases st.read i k o ok t an kI b5 vI aJ with h|⟨_,h⟩
          · exact absurd h (inv.pw k hk i (by simp))
          · exact absurd h (Xw k hk)
        · exact aJ
      · exact λe=>am0 (st.one i k o ok t an kI b5 e vI).2
    · rcases Za BO k R c3 with h|h
      · exact absurd h (Xw k hk)
      · exact sH d (h d af)
    · have iI:d∉news:=λh=>by rw[(yq d h).2]at Z;cases Z
      rw[U d iI];exact Ct
  · by_cases aN:o.dst=some t
    · rw[aN,Gp a t v t (zk t aN),if_pos rfl]
      simp only[au.put,avQ,if_true];exact l9
    · rw[awi aN]
      have:(a.put o.dst v).tmps.getD t undef=a.tmps.getD t undef:=by
        cases af:o.dst with
        |none=>rfl
        |some d=>rw[Gp a d v t (zk d af),if_neg (λe=>aN (by rw[af,e]))]
      rw[this];exact Gn hle (h5.refl _) _ _ (xh (p:=news.contains) (λd af=>U d (by simpa using af)) _ _ (av0 ah t) (inv.rp t b5))
end inv
def aa0(st:Stat G ops s)(hdr:s.fR=true)(Q:Exit→Act→World→Prop)(K:au→ag→Prop)(cx:fO)
  (g4:∀env σ a w,K env σ→th G cx env σ a w→Q .normal a w) :
  ∀(fuel:Nat) (l hc:dI) (m:Nat→dI) (gi:tJ) (log:List (Nat×dI)) (env:au) (σ:ag) (a:Act) (w:World) (I:bG) (β:Nat→Value),
   hc.length+l.length=fuel→Inv G ops s cx m l hc gi log env σ a w I β→h4 G ops s log l env σ K→wpAny G.P .any ops Q fuel gi a w:=by
 intro fuel;induction fuel with
 |zero=>
  intro l hc m gi log env σ a w I β eH inv ah;have aF:hc=[]:=eq_nil_of_length_eq_zero (by omega);have aJ:l=[]:=eq_nil_of_length_eq_zero (by omega);subst aF aJ;refine⟨?_,g4 env σ a w ah ⟨I,β,inv.rw,λt=>inv.rp t (by simp),inv.sz,inv.df⟩⟩;apply eq_nil_iff_forall_not_mem.2;intro j aY;obtain⟨h1,o,an,_⟩:=AG.1 aY;have:=(inv.uu j (Array.getElem?_eq_some_iff.1 an).1).1 h1;simp at this
 |succ fuel bu=>
  intro l
  have X1:∀{l hc:dI} {m:Nat→dI} {gi:tJ} {log:List (Nat×dI)} {env:au} {σ:ag} {a:Act} {w:World} {I:bG} {β:Nat→Value},hc.length+l.length=fuel+1→
    Inv G ops s cx m l hc gi log env σ a w I β→Region.ready .any ops gi≠[]:=by
   intro l hc m gi log env σ a w I β eH inv;have:∃p,p∈hc∨p∈l:=by
    cases hc with
    |nil=>cases l with
     |nil=>simp at eH
     |cons p _=>exact⟨p,.inr (by simp)⟩
    |cons p _=>exact⟨p,.inl (by simp)⟩
   obtain⟨p,aF⟩:=this;have Cv:p<ops.size:=by rcases aF with h|h<;>first|exact inv.ps p h|exact inv.ls p h
   exact ZL st inv.qH _ p (Nat.le_refl _) Cv ((inv.uu p Cv).2 aF)
  induction l with
  |nil=>
   intro hc m gi log env σ a w I β eH inv ah;refine⟨λaI=>absurd aI (X1 eH inv),λj aY=>?_⟩;obtain⟨w1,o,an,_⟩:=AG.1 aY;have qy:j∈hc:=by simpa using (inv.uu j (Array.getElem?_eq_some_iff.1 an).1).1 w1
   refine inv.Rx st aY qy λgW w' bq β' N5=>bu _ _ _ _ _ _ _ _ _ _ _ ?_ N5 ah;rw[length_erase_of_mem qy];have:=length_pos_of_mem qy;omega
  |cons i l XM=>
   intro hc m gi log env σ a w I β eH inv ah;obtain⟨o,an,uO⟩:=ah;have ah:h4 G ops s log (i::l) env σ K:=⟨o,an,uO⟩;have Xq:(i::hc).length+l.length=fuel+1:=by simp at eH ⊢;omega
   have L6:∀log:List (Nat×dI),u5 s i [] log=true:=by
    intro log;induction log with
    |nil=>rfl
    |cons x r N2=>obtain⟨k,R⟩:=x;simp[u5,N2]
   have SD:i∈s.es→(∀(_:i∈Region.ready .any ops gi),wpOp G.P ops Q i (wpAny G.P .any ops Q fuel (gi.setIfInBounds i true)) a w)→wpAny G.P .any ops Q (fuel+1) gi a w:=by
    intro kQ Co;refine⟨λaI=>absurd aI (X1 eH inv),λj aY=>?_⟩;obtain⟨w1,eN,ani,_⟩:=AG.1 aY;rcases(inv.uu j (Array.getElem?_eq_some_iff.1 ani).1).1 w1 with qy|oy
    ·refine inv.Rx st aY qy λgW w' bq β' N5=>bu _ _ _ _ _ _ _ _ _ _ _ ?_ N5 ah;rw[length_erase_of_mem qy];have:=length_pos_of_mem qy;omega
    ·rcases mem_cons.1 oy with rfl|oy
     ·exact Co aY
     ·exfalso;have qK:=inv.ord;simp only[xw,Bool.and_eq_true,List.all_eq_true,Bool.or_eq_true,Bool.not_eq_true',List.contains_eq_mem,decide_eq_false_iff_not,decide_eq_true_eq]at qK;have:=(qK.1 j oy).2.resolve_left (λh=>h kQ);have:=JB st inv.qH inv.cl aY i this;rw[inv.PN (.inr (by simp))]at this;cases this
   have UG:hc.length+l.length=fuel:=by simp at eH;omega
   rcases uO with⟨h1,D,aq⟩|⟨h1,D,eM,R,b9,σ2,aa,c3,sH,hZ,aq⟩|⟨h1,D,M,news,Φ,fs,BO,iD,yq,aq⟩|⟨h1,D,aq⟩
   ·exact XM (i::hc) _ gi ((i,[])::log) _ _ a w I _ Xq (inv.qJ st an (D hdr) (eM:=[]) (R:=[]) (awa G σ env) (.inl ⟨h1,rfl,rfl⟩)) aq
   ·exact XM (i::hc) _ gi ((i,R)::log) _ _ a w I _ Xq (inv.qJ st an (D hdr) aa (.inr ⟨h1,hZ,c3,sH⟩)) aq
   ·refine SD (D hdr) λaI=>?_;have Ae:=inv.O7 st aI an (λh=>absurd (D hdr) (by obtain⟨_,_,_,q,_⟩:=inv.tj i h;exact q));have av:=inv.rp.want st inv.sz Ae;unfold wpOp;simp only[an];rw[av.1 h1];simp only[if_true];refine .inl (pN.wp (fs cx I β w a.eval inv.rw (inv.rp.ev Ae)) ?_);rintro v w' ⟨b9,aH,bq,β',NZ,l9,fU,hle,U,al5⟩;exact bu _ _ _ _ _ _ _ _ _ _ _ UG (inv.B5 st an (D hdr) aI (BO hdr) iD yq l9 fU hle U al5) (aq b9 aH NZ)
   ·refine SD (D hdr) λaI=>?_;have Ae:=inv.O7 st aI an (λh=>absurd (D hdr) (by obtain⟨_,_,_,q,_⟩:=inv.tj i h;exact q));have av:=inv.rp.want st inv.sz Ae;unfold wpOp;simp only[an];rw[av.2 h1];simp only[Bool.false_eq_true,if_false];exact bu _ _ _ _ _ _ _ _ _ _ _ UG (inv.B5 st an (D hdr) aI (M:=[]) (news:=[]) (b9:=.undef) (L6 log) (av9 env) (by simp) (by simp[aC,bm]) inv.rw (cV.refl I) (λ_ _=>rfl) (λ_ _=>rfl)) aq
end any
end
section
def aP(G:cR)(c:Code)(Q:Exit→au→ag→Prop)(env:au)(σ:ag):Prop:=
 ∀cx a w,th G cx env σ a w→c.wp G.P (λe gW w'=>∃g0 aH,th G cx g0 aH gW w'∧Q e g0 aH) a w
def aP.mono{G:cR}{c:Code}{Q D8:Exit→au→ag→Prop}{env:au}{σ:ag}(h:aP G c Q env σ)(bP:∀e env σ,Q e env σ→D8 e env σ):aP G c D8 env σ:=
 λcx a w aI=>wp_mono (h cx a w aI) λ_ _ _ ⟨g0,aH,h1,D⟩=>⟨g0,aH,h1,bP _ _ _ D⟩
section code
variable {G:cR}{Q:Exit→au→ag→Prop}{env:au}{σ:ag}
def A.skip(h:Q .normal env σ):aP G .skip Q env σ:=λ_ _ _ aI=>wp_skip ⟨env,σ,aI,h⟩
def A.exit{id:Nat}(h:Q (.exit id) env σ):aP G (.exit id) Q env σ:=λ_ _ _ aI=>wp_exit ⟨env,σ,aI,h⟩
def A.ret(h:Q .ret env σ):aP G .ret Q env σ:=λ_ _ _ aI=>wp_ret ⟨env,σ,aI,h⟩
def um(next:au→ag→Prop)(Q:Exit→au→ag→Prop):Exit→au→ag→Prop
 |.normal,env,σ=>next env σ
 |e,env,σ=>Q e env σ
def A.seq{x y:Code}(h:aP G x (um (aP G y Q) Q) env σ):aP G (.seq x y) Q env σ:=by
 intro cx a w aI;refine wp_seq (wp_mono (h cx a w aI) ?_);rintro e gW w' ⟨g0,aH,oz,bP⟩;cases e with
 |normal=>exact bP cx gW w' oz
 |_=>exact⟨g0,aH,oz,bP⟩
def TA(id:Nat)(Q:Exit→au→ag→Prop):Exit→au→ag→Prop
 |.exit Ft,env,σ=>bif Nat.beq Ft id then Q .normal env σ else Q (.exit Ft) env σ
 |e,env,σ=>Q e env σ
def A.block{id:Nat}{x:Code}(h:aP G x (TA id Q) env σ):aP G (.block id x) Q env σ:=by
 intro cx a w aI;refine wp_block (wp_mono (h cx a w aI) ?_);rintro e gW w' ⟨g0,aH,oz,bP⟩;cases e with
 |exit Ft=>
  simp only[TA,Exit.inBlock]at bP ⊢;by_cases h:Ft=id
  ·subst h;simp at bP ⊢;exact⟨g0,aH,oz,bP⟩
  ·have:Nat.beq Ft id=false:=by rw[←Bool.not_eq_true,Nat.beq_eq];exact h
   simp only[this,cond_false]at bP;rw[if_neg h];exact⟨g0,aH,oz,bP⟩
 |_=>exact⟨g0,aH,oz,bP⟩
def A.cond{c:Operand}{x y:Code}{b:Bool}(ah:env.ev c=.bool b)(b5:b=true→aP G x Q env σ)(bA:b=false→aP G y Q env σ):aP G (.cond c x y) Q env σ:=by
 intro cx a w aI;obtain⟨I,β,h1,D,aq,aZ⟩:=aI;have aa:=D.ev c;rw[ah]at aa;simp only[aC,bm]at aa;exact wp_cond_split aa (λe=>b5 e cx a w ⟨I,β,h1,D,aq,aZ⟩) (λe=>bA e cx a w ⟨I,β,h1,D,aq,aZ⟩)
def A.region{id:Nat}{ops:mg}(af:xD G.N ops=true)(h:h4 G ops ⟨false,[],[]⟩ [] (List.range ops.size) env σ (λenv σ=>Q .normal env σ)):aP G (.region id ops false) Q env σ:=by
 intro cx a w aI;exact wp_region (Kn G ops _ _ (Y9 af) _ cx (λenv σ a w hk aI=>⟨env,σ,aI,hk⟩) _ _ _ _ _ _ h aI)
def cz.drew{G:cR}{cx:fO}{I:bG}{β:Nat→Value}{w:World}(h:cz G cx I β σ w):cz G cx I β σ {w with drawn:=w.drawn+1}:=
 {good:=h.good,iB:=h.iB,kg:=h.kg,jX:=h.jX,frame:=h.frame,size:=h.size,tape:=h.tape,os:=h.os,output:=h.output,drawn:=Nat.le_trans h.drawn (Nat.le_succ _),c4:=λd o af=>bb.heap (w:=w) (w':={w with drawn:=w.drawn+1}) rfl (h.c4 d o af),ee:=h.ee,keep:=h.keep}
def A.any{id:Nat}{ops:mg}(T:su)(es l:dI)(hm:G.P.follows .mixedOrders=true)(Z:HC G.N ops ⟨true,T,es⟩ l=true)
    (h:h4 G ops ⟨true,T,es⟩ [] l env σ (λenv σ=>Q .normal env σ)):aP G (.region id ops true) Q env σ:=by
  intro cx a w aI;obtain⟨st,qK,p2⟩:=awR Z;obtain⟨I,β,h1,D,aq,aZ⟩:=aI
  refine wp_region_any hm (aa0 st rfl _ _ cx (λenv σ a w hk aI=>⟨env,σ,aI,hk⟩) ops.size l [] (λ_=>[]) _ [] env σ a _ I β ?_
    {qH:=by simp,ord:=qK,uu:=λi hi=>?_,vz:=λi hi=>by simp at hi,nd:=nodup_nil,pw:=λi hi=>by simp at hi,ps:=λi hi=>by simp at hi,ls:=λi hi=>(p2 i).2 hi,
     cl:=λj aY=>?_,tj:=λi hi=>by simp at hi,md:=λi hi=>by simp at hi,rw:=h1.drew,rp:=λt _=>D t,sz:=aq,df:=aZ} h)
  ·
    have nd:∀l:dI,xw ⟨true,T,es⟩ l=true→l.Nodup:=by
      intro l;induction l with
      |nil=>intro _;exact nodup_nil
      |cons i l bu=>
        intro h;simp only[xw,Bool.and_eq_true,List.all_eq_true,Bool.not_eq_true',beq_eq_false_iff_ne]at h;exact nodup_cons.2 ⟨λhi=>(h.1 i hi).1.2 rfl,bu h.2⟩
    have aF:l.Perm (List.range ops.size):=(perm_ext_iff_of_nodup (nd l qK) nodup_range).2 λi=>by rw[List.mem_range];exact(p2 i).symm
    simpa using aF.length_eq
  · simp[Array.getD_eq_getD_getElem?,hi,(p2 i).1 hi]
  · simp only[Array.getD_eq_getD_getElem?,Array.getElem?_replicate]at aY
    split at aY<;>simp at aY
def cB(G:cR)(env:au)(σ:ag)(ek:au)(σ2:ag):Prop:=
 ∀cx I β a w,cz G cx I β σ w→mC I β env a→∃bq β',cz G cx bq β' σ2 w∧mC bq β' ek a
def cB.refl(G:cR)(env:au)(σ:ag):cB G env σ env σ:=λ_ I β _ _ h b3=>⟨I,β,h,b3⟩
def cB.trans{Bl ek:au}{tE σ2:ag}(h:cB G env σ Bl tE)(b3:cB G Bl tE ek σ2):cB G env σ ek σ2:=λcx I β a w h1 D=>by
 obtain⟨bq,β',aq,aZ⟩:=h cx I β a w h1 D;exact b3 cx bq β' a w aq aZ
def cB.rel{ek:au}{σ2:ag}(h:cB G env σ ek σ2){cx:fO}{a:Act}{w:World}(aI:th G cx env σ a w):th G cx ek σ2 a w:=by
 obtain⟨I,β,h1,D,aq,aZ⟩:=aI;obtain⟨bq,β',bV,dU⟩:=h cx I β a w h1 D;exact⟨bq,β',bV,dU,aq,aZ⟩
def avF{c:Code}{ek:au}{σ2:ag}(h:cB G env σ ek σ2)(k:aP G c Q ek σ2):aP G c Q env σ:=λcx a w aI=>k cx a w (h.rel aI)
def A.loop{c:Code}{α:Type}(gr:α→au)(gB:α→ag)(KR:α→Prop)(μ:α→Nat)(mO:α)(bJ:KR mO)(av:cB G env σ (gr mO) (gB mO))
  (step:∀g,KR g→aP G c (um (λg0 aH=>∃hY,KR hY∧μ hY<μ g∧cB G g0 aH (gr hY) (gB hY)) Q) (gr g) (gB g)):aP G (.loop c) Q env σ:=by
 intro cx a w aI b k cs
 have key:∀n g a w,μ g=n→KR g→th G cx (gr g) (gB g) a w→∃e gW w',(∃g0 aH,th G cx g0 aH gW w'∧Q e g0 aH)∧
   Arrives G.P (lone (b.at a (.code c::.inLoop c::k)) cs w) b k cs e gW w':=by
  intro n;induction n using Nat.strongRecOn with
  |_ n bu=>
   intro g a w aX bw aI;obtain⟨e,BU,DE,bP,nP⟩:=step g bw cx a w aI b (.inLoop c::k) cs;obtain⟨g0,aH,oz,bP⟩:=bP;cases e with
   |normal=>
    obtain⟨hY,uP,bS,NV⟩:=bP;obtain⟨alH,akZ,aqV,ahY,adI⟩:=bu (μ hY) (aX▸bS) hY BU DE rfl uP (NV.rel oz);exact⟨alH,akZ,aqV,ahY,.of_steps (Steps.trans nP (.one step_inLoop)) adI⟩
   |exit id=>exact⟨_,BU,DE,⟨g0,aH,oz,bP⟩,.pass (x:=.inLoop c) rfl (λ_ _=>.inl (by simp)) nP⟩
   |goto l=>exact⟨_,BU,DE,⟨g0,aH,oz,bP⟩,.pass (x:=.inLoop c) rfl (λ_ _=>.inl (by simp)) nP⟩
   |ret=>exact⟨_,BU,DE,⟨g0,aH,oz,bP⟩,.pass (x:=.inLoop c) rfl (λ_ _=>.inl (by simp)) nP⟩
   |panic lJ=>exact⟨_,BU,DE,⟨g0,aH,oz,bP⟩,.pass (x:=.inLoop c) rfl (λ_ _=>.inl (by simp)) nP⟩
   |outgrown=>exact⟨_,BU,DE,⟨g0,aH,oz,bP⟩,.pass (x:=.inLoop c) rfl (λ_ _=>.inl (by simp)) nP⟩
 obtain⟨e,gW,w',bP,nP⟩:=key _ mO a w rfl bJ (av.rel aI);exact⟨e,gW,w',bP,.of_steps (.one step_loop) nP⟩
end code
mutual
def W.closed:W→Bool
 |.agg cs=>nm cs
 |.c5 cs=>nm cs
 |.fn _ cs=>nm cs
 |.own _=>false
 |.ptr _ _=>false
 |.ja _ _=>false
 |.dm _=>false
 |_=>true
def nm:List W→Bool
 |[]=>true
 |x::r=>x.closed&&nm r
end
mutual
def aC.closed{I:bG}{β:Nat→Value}:∀(a:W) (v:Value),a.closed=true→aC I β a v→bm I a v
 |.fP,_,_,_=>trivial
 |.undef,_,_,h=>by simpa only[aC]using h
 |.int _ _,_,_,h=>by simpa only[aC]using h
 |.bool _,_,_,h=>by simpa only[aC]using h
 |.str _,_,_,h=>by simpa only[aC]using h
 |.bf _ _,_,_,h=>by simpa only[aC]using h
 |.gq _,_,_,h=>by simpa only[aC]using h
 |.c6,_,_,h=>by simpa only[aC]using h
 |.oC,_,_,h=>by simpa only[aC]using h
 |.e7 _ _,_,_,h=>by simpa only[aC]using h
 |.k7,_,_,h=>by simpa only[aC]using h
 |.c7 _,_,_,h=>by simpa only[aC]using h
 |.arr _,_,_,h=>by simpa only[aC]using h
 |.agg cs,v,ah,h=>by
  simp only[bm,aC,W.closed]at h ah ⊢;obtain⟨vs,h1,D⟩:=h;exact⟨vs,h1,b8.closed cs _ ah D⟩
 |.c5 cs,v,ah,h=>by
  simp only[bm,aC,W.closed]at h ah ⊢;obtain⟨vs,h1,D⟩:=h;exact⟨vs,h1,b8.closed cs _ ah D⟩
 |.fn f cs,v,ah,h=>by
  simp only[bm,aC,W.closed]at h ah ⊢;obtain⟨vs,h1,D⟩:=h;exact⟨vs,h1,b8.closed cs _ ah D⟩
 |.own _,_,ah,_=>by simp[W.closed]at ah
 |.ptr _ _,_,ah,_=>by simp[W.closed]at ah
 |.ja _ _,_,ah,_=>by simp[W.closed]at ah
 |.dm _,_,ah,_=>by simp[W.closed]at ah
def b8.closed{I:bG}{β:Nat→Value}:∀(a:List W) (v:dQ),nm a=true→b8 I β a v→ds I a v
 |[],_,_,h=>h
 |x::r,v,ah,h=>by
  simp only[b8,ds,nm,Bool.and_eq_true]at h ah ⊢;obtain⟨aR,us,h1,D,aq⟩:=h;exact⟨aR,us,h1,aC.closed x aR ah.1 D,b8.closed r us ah.2 aq⟩
end
mutual
inductive jJ(σ:ag):W→W→Prop
 |refl (a:W):jJ σ a a
 |nil (f:Bool):jJ σ .c6 (.bf f [])
 |k7:jJ σ .k7 (.bf false [])
 |full (xs:List (List W)):jJ σ (.bf true xs) (.bf false xs)
 |own {d:Nat} {T:TypeId} {sz k:Nat} {xs:List (List W)} (h:σ.get d=some (.slice T sz xs k true)):jJ σ (.own d) (.bf false xs)
 |win {d:Nat} {T:TypeId} {sz:Nat} {xs:List (List W)} (h:σ.get d=some (.win T sz xs)):jJ σ (.own d) (.bf false xs)
 |k3 {d:Nat} {K E:TypeId} {bL:List (W×W)} (h:σ.get d=some (.k3 K E bL)):jJ σ (.dm d) (.c7 bL)
 |agg {cs pr:List W} (h:mP σ cs pr):jJ σ (.agg cs) (.agg pr)
 |c5 {cs pr:List W} (h:mP σ cs pr):jJ σ (.c5 cs) (.c5 pr)
 |fn {f:Nat} {cs pr:List W} (h:mP σ cs pr):jJ σ (.fn f cs) (.fn f pr)
 |fP (a:W):jJ σ a .fP
 |e7 {f:Nat} {a:W} {cs:List W} (h:jJ σ a (.fn f cs)) (ah:nm cs=true):jJ σ a (.e7 f cs)
inductive mP(σ:ag):List W→List W→Prop
 |nil:mP σ [] []
 |cons {a b:W} {r s:List W} (h:jJ σ a b) (t:mP σ r s):mP σ (a::r) (b::s)
end
def Kk{I:bG}{b:Nat}:∀(cs:List W) (o:Nat) (vs:dQ),ds I cs vs→(∀(j:Nat) v,vs[j]?=some v→I b ((o+j:Nat))=some v)→l1 I b cs o
 |[],_,_,_,_=>trivial
 |x::r,o,vs,h,ef=>by
  simp only[ds]at h;obtain⟨aR,us,rfl,h1,D⟩:=h;refine⟨⟨aR,by simpa using ef 0 aR rfl,h1⟩,Kk r (o+1) us D λj v aa=>?_⟩;have:=ef (j+1) v (by simpa using aa)
  rwa [show o+(j+1)=o+1+j from by omega]at this
def oL{I:bG}:∀(xs bF:List W) (vs:dQ),ds I (xs++bF) vs↔∃us ws,vs=us++ws∧ds I xs us∧ds I bF ws
 |[],bF,vs=>by
  simp only[nil_append,ds];exact⟨λh=>⟨[],vs,rfl,rfl,h⟩,λ⟨us,ws,h1,D,aq⟩=>by subst D;simp at h1;subst h1;exact aq⟩
 |x::r,bF,vs=>by
  simp only[cons_append,ds];constructor
  ·rintro⟨aR,us,rfl,h1,D⟩;obtain⟨uC,ws,rfl,aq,aZ⟩:=(oL r bF us).1 D;exact⟨aR::uC,ws,rfl,⟨aR,uC,rfl,h1,aq⟩,aZ⟩
  ·rintro⟨us,ws,rfl,⟨aR,uC,rfl,h1,aq⟩,aZ⟩;exact⟨aR,uC++ws,rfl,h1,(oL r bF _).2 ⟨uC,ws,rfl,aq,aZ⟩⟩
def qW{I:bG}:∀(xs:List W) (vs:dQ),ds I xs vs→vs.length=xs.length
 |[],vs,h=>by simp only[ds]at h;subst h;rfl
 |x::r,vs,h=>by
  simp only[ds]at h;obtain⟨aR,us,rfl,_,D⟩:=h;simp[qW r us D]
def tL{I:bG}{β:Nat→Value}:∀(xs:List W) (vs:dQ),b8 I β xs vs→vs.length=xs.length
 |[],vs,h=>by simp only[b8]at h;subst h;rfl
 |x::r,vs,h=>by
  simp only[b8]at h;obtain⟨aR,us,rfl,_,D⟩:=h;simp[tL r us D]
def AK{I:bG}{b:Nat}:∀(xs:List (List W)) (o:Nat) (vs:dQ),ds I xs.flatten vs→(∀(j:Nat) v,vs[j]?=some v→I b ((o+j:Nat))=some v)→kf I b xs o
 |[],_,_,_,_=>trivial
 |e::r,o,vs,h,ef=>by
  simp only[flatten_cons]at h;obtain⟨us,ws,rfl,h1,D⟩:=(oL _ _ _).1 h;have aJ:=qW _ _ h1
  refine⟨Kk e o us h1 λj v aa=>ef j v (by
    rw[List.getElem?_append_left (by rcases Nat.lt_or_ge j us.length with b3|b3;exact b3;rw[List.getElem?_eq_none b3]at aa;cases aa)];exact aa),
   AK r (o+e.length) ws D λj v aa=>?_⟩
  have:=ef (us.length+j) v (by rw[List.getElem?_append_right (by omega)];simpa using aa)
  rwa [aJ,←Nat.add_assoc]at this
section sealing
variable {G:cR}{cx:fO}{I:bG}{β:Nat→Value}{σ:ag}{w:World}
def cz.slice(h:cz G cx I β σ w){d:Nat}{T:TypeId}{sz k:Nat}{xs:List (List W)}(af:σ.get d=some (.slice T sz xs k true)){v:Value}(aa:aC I β (.own d) v):
  aC I β (.bf false xs) v:=by
 simp only[aC]at aa;obtain⟨rfl,Z⟩:=aa;have:=h.c4 d _ af;simp only[bb]at this;rcases this with h1|⟨h1,rfl,_⟩|⟨b,aV,arr,h1,D,aq,aZ,bV,dU,eR,jS,iy,oQ,sC⟩
 ·rw[h1]at Z;simp[i1]at Z
 ·rw[h1];simp only[aC,bm];exact⟨none,0,rfl,by simp,by simp[maxLen],by simp,by simp⟩
 ·rw[h1];simp only[aC,bm];refine⟨_,aV,rfl,D,aq,by simp,.inr ⟨b,0,rfl,?_⟩⟩;refine AK xs 0 _ dU λj v aa=>?_;rw[Nat.zero_add];rw[getElem?_take]at aa;split at aa
  ·rename_i bS;rw[iy trivial j bS];simpa using aa
  ·cases aa
def cz.win(h:cz G cx I β σ w){d:Nat}{T:TypeId}{sz:Nat}{xs:List (List W)}(af:σ.get d=some (.win T sz xs)){v:Value}(aa:aC I β (.own d) v):
  aC I β (.bf false xs) v:=by
 simp only[aC]at aa;obtain⟨rfl,Z⟩:=aa;have:=h.c4 d _ af;simp only[bb]at this;rcases this with h1|⟨h1,rfl⟩|⟨b,gO,aV,arr,h1,D,aq,aZ,bV,dU,eR,jS,iy⟩
 ·rw[h1]at Z;simp[i1]at Z
 ·rw[h1];simp only[aC,bm];exact⟨none,0,rfl,by simp,by simp[maxLen],by simp,by simp⟩
 ·rw[h1];simp only[aC,bm];exact⟨_,aV,rfl,D,aq,by simp,.inr ⟨b,gO,rfl,dU⟩⟩
mutual
def jJ.rep(av:cz G cx I β σ w):∀{a r:W},jJ σ a r→∀v,aC I β a v→aC I β r v
 |_,_,.k7,v,h=>by
  simp only[aC,bm]at h ⊢;obtain⟨a,c,aI,ah⟩:=h;exact⟨some a,c,aI,by simp,ah,by simp,by simp⟩
 |_,_,.refl _,_,h=>h
 |_,_,.e7 Z ah,v,h=>by
  have h1:=jJ.rep av Z v h;simp only[aC,bm]at h1 ⊢;obtain⟨vs,D,aq⟩:=h1;exact⟨vs,D,b8.closed _ _ ah aq⟩
 |_,_,.nil f,v,h=>by
  simp only[aC,bm]at h ⊢;exact⟨none,0,h,by simp,by simp[maxLen],by simp,by simp⟩
 |_,_,.full xs,v,h=>by
  simp only[aC,bm]at h ⊢;obtain⟨a,c,h1,D,aq,_,aZ⟩:=h;exact⟨a,c,h1,D,aq,by simp,aZ⟩
 |_,_,.own af,v,h=>av.slice af h
 |_,_,.win af,v,h=>av.win af h
 |_,_,.k3 af,v,h=>by
  simp only[aC]at h;obtain⟨rfl,hm⟩:=h;have:=av.c4 _ _ af;simp only[bb]at this;rcases this with q|⟨r,es,clock,ak,ax,aO,_,aL⟩
  ·rw[q]at hm;simp[nV]at hm
  ·rw[ak];simp only[aC,bm];exact⟨r,es,clock,rfl,ax,aO,aL⟩
 |_,_,.agg Z,v,h=>by
  simp only[aC]at h ⊢;obtain⟨vs,h1,D⟩:=h;exact⟨vs,h1,mP.rep av Z _ D⟩
 |_,_,.c5 Z,v,h=>by
  simp only[aC]at h ⊢;obtain⟨vs,h1,D⟩:=h;exact⟨vs,h1,mP.rep av Z _ D⟩
 |_,_,.fn Z,v,h=>by
  simp only[aC]at h ⊢;obtain⟨vs,h1,D⟩:=h;exact⟨vs,h1,mP.rep av Z _ D⟩
 |_,_,.fP _,v,h=>by simp[aC]
def mP.rep(av:cz G cx I β σ w):∀{a r:List W},mP σ a r→∀vs,b8 I β a vs→b8 I β r vs
 |_,_,.nil,_,h=>h
 |_,_,.cons Z b5,vs,h=>by
  simp only[b8]at h ⊢;obtain⟨aR,us,h1,D,aq⟩:=h;exact⟨aR,us,h1,jJ.rep av Z aR D,mP.rep av b5 us aq⟩
end
def cz.sub{σ2:ag}(h:cz G cx I β σ w)(Z:∀d o,σ2.get d=some o→σ.get d=some o):cz G cx I β σ2 w:=
  {h with c4:=λd o e=>h.c4 d o (Z d o e),
          ee:=λd dO e cC=>by
            obtain⟨o,e⟩:=Option.isSome_iff_exists.1 e;obtain⟨hT,cC⟩:=Option.isSome_iff_exists.1 cC;exact h.ee d dO (by rw[Z d o e];rfl) (by rw[Z dO hT cC];rfl)}
def cE.wP:cE→cE
 |.slice T sz xs _ _=>.slice T sz xs xs.length true
 |.map K E bL=>.k3 K E bL
 |o=>o
def ag.freeze(cT:dI):ag→ag
 |[]=>[]
 |(d,o)::r=>(d,bif cT.contains d then o.wP else o)::ag.freeze cT r
def avP(cT:dI):∀(σ:ag) (d:Nat),(ag.freeze cT σ).get d=(σ.get d).map λo=>if d∈cT then o.wP else o
 |[],d=>rfl
 |(k,o)::r,d=>by
  simp only[ag.freeze,avA,avP cT r d];split
  ·rename_i h;subst h;by_cases hm:k∈cT<;>simp[hm]
  ·rfl
def bb.N4{bq:bG}{d b:Nat}{o:cE}(hle:cV I bq)(jH:∀aS o,aS≠b→bq aS o=I aS o)(UH:∀aS∈dA (β d),aS≠b)(gI:bb cx I β w d o):bb cx bq β w d o:=by
 have pJ:∀aS,cb (β d)=some aS→aS≠b:=λaS ic=>UH aS (kL ic);cases o with
 |cL fh=>
  simp only[bb]at gI ⊢;rcases gI with q|⟨Z,ak,ax⟩
  ·exact .inl q
  ·exact .inr ⟨Z,ak,ax.go hle λaS ic=>⟨λ_=>rfl,λo=>jH aS o (UH aS (by rw[ak];exact ic)),id⟩⟩
 |hU T xs t=>
  simp only[bb]at gI ⊢;rcases gI with q|⟨aS,aV,arr,ak,ax,aO,aL,bg,bI,b7,cD,dz,dT,fG⟩
  ·exact .inl q
  ·exact .inr ⟨aS,aV,arr,ak,ax,aO,aL,bg,ni hle _ _ bI,b7,cD,dz,λo=>by rw[jH aS o (pJ aS (by rw[ak];rfl))];exact dT o,fG⟩
 |vec T xs=>
  simp only[bb]at gI ⊢;rcases gI with q|⟨aS,arr,ak,ax,aO,aL,bg⟩
  ·exact .inl q
  ·exact .inr ⟨aS,arr,ak,ax,aO,λo=>by rw[jH aS o (pJ aS (by rw[ak];rfl))];exact aL o,bg⟩
 |kE es clock bL seen=>
  simp only[bb]at gI ⊢;rcases gI with q|⟨r,gd,ak,ax,aO,aL,bg,bI,b7⟩
  ·exact .inl q
  ·exact .inr ⟨r,gd,ak,ax,hle _ _ _ aO,n1 hle _ _ aL,bg,λo=>by rw[jH r o (pJ r (by rw[ak];rfl))];exact bI o,b7⟩
 |e9 T e n dk=>
  simp only[bb]at gI ⊢;rcases gI with q|⟨aS,aV,arr,Z,ak,ax,aO,aL,bg,bI,b7,cD,dz,dT⟩
  ·exact .inl q
  ·exact .inr ⟨aS,aV,arr,Z,ak,ax,aO,aL,bg,bI,b7,cD,λo=>by rw[jH aS o (pJ aS (by rw[ak];rfl))];exact dz o,dT⟩
 |iF T sz xs lZ e dk=>
  simp only[bb]at gI ⊢;rcases gI with q|⟨aS,aV,arr,Z,vs,ak,ax,aO,aL,bg,bI,b7,cD,dz,dT⟩
  ·exact .inl q
  ·exact .inr ⟨aS,aV,arr,Z,vs,ak,ax,aO,aL,bg,bI,b7,⟨ni hle _ _ cD.1,cD.2⟩,λo=>by rw[jH aS o (pJ aS (by rw[ak];rfl))];exact dz o,dT⟩
 |fQ K E e keys dk js=>
  simp only[bb]at gI ⊢;rcases gI with q|⟨r,es,clock,Z,cN,ak,ax,aO,aL,bg,bI,b7,cD⟩
  ·exact .inl q
  ·exact .inr ⟨r,es,clock,Z,cN,ak,ax,aO,aL,bg.mono hle,λo=>by rw[jH r o (pJ r (by rw[ak];rfl))];exact bI o,b7,cD⟩
 |cells T cs=>
  simp only[bb]at gI ⊢;rcases gI with q|⟨aS,pO,ak,ax,aO,aL,bg⟩
  ·exact .inl q
  ·exact .inr ⟨aS,pO,ak,ax,vP hle (h5.refl _) _ _ aO,λo=>by rw[jH aS o (pJ aS (by rw[ak];rfl))];exact aL o,bg⟩
 |slice be iU kU er alO=>
  simp only[bb]at gI ⊢;rcases gI with q|q|⟨aS,nh,pO,ak,ax,aO,aL,bg,bI,b7,cD,dz,dT,fG⟩
  ·exact .inl q
  ·exact .inr (.inl q)
  ·have cA:=pJ aS (by rw[ak];rfl);exact .inr (.inr ⟨aS,nh,pO,ak,ax,aO,aL,bg,ni hle _ _ bI,b7,cD,λhz o an=>by rw[jH aS o cA];exact dz hz o an,λo an=>by rw[jH aS o cA];exact dT o an,fG⟩)
 |win be iU kU=>
  simp only[bb]at gI ⊢;rcases gI with q|q|⟨aS,hT,nh,pO,ak,ax,aO,aL,bg,bI,b7,cD,dz⟩
  ·exact .inl q
  ·exact .inr (.inl q)
  ·have cA:=pJ aS (by rw[ak];rfl);exact .inr (.inr ⟨aS,hT,nh,pO,ak,ax,aO,aL,bg,Ax hle _ _ _ bI,b7,λhz o an=>by rw[jH aS o cA];exact cD hz o an,dz⟩)
 |map K E bL=>
  simp only[bb]at gI ⊢;rcases gI with q|⟨r,es,clock,ak,ax,aO,aL,bg⟩
  ·exact .inl q
  ·exact .inr ⟨r,es,clock,ak,ax,n1 hle _ _ aO,λo=>by rw[jH r o (pJ r (by rw[ak];rfl))];exact aL o,bg⟩
 |k3 K E bL=>
  simp only[bb]at gI ⊢;rcases gI with q|⟨r,es,clock,ak,ax,aO,aL⟩
  ·exact .inl q
  ·exact .inr ⟨r,es,clock,ak,hle _ _ _ ax,n1 hle _ _ aO,aL⟩
 |hM es clock K E bL=>
  simp only[bb]at gI ⊢;rcases gI with q|⟨r,ak,ax,aO,aL,bg⟩
  ·exact .inl q
  ·exact .inr ⟨r,ak,ax,n1 hle _ _ aO,λo=>by rw[jH r o (pJ r (by rw[ak];rfl))];exact aL o,bg⟩
 |iter cW si kX seen=>
  simp only[bb]at gI ⊢;rcases gI with q|⟨r,gd,ak,ax,aO,aL,bg⟩
  ·exact .inl q
  ·exact .inr ⟨r,gd,ak,ax,aO,λo=>by rw[jH r o (pJ r (by rw[ak];rfl))];exact aL o,bg⟩
 |hdr cW n=>exact gI
def cz.adJ(h:cz G cx I β σ w)(e:Nat):∃bq,cV I bq∧cz G cx bq β (σ.freeze [e]) w:=by
 cases he:σ.get e with
 |none=>
  refine⟨I,cV.refl I,h.sub λd o af=>?_⟩;rw[avP]at af;cases eB:σ.get d with
  |none=>rw[eB]at af;cases af
  |some hT=>
   rw[eB]at af;have:d∉[e]:=by intro hm;simp at hm;subst hm;rw[he]at eB;cases eB
   simp only[Option.map_some,this,if_false]at af;exact af
 |some o=>
  have ti:(∀hT,o.wP=hT→hT=o)→∃bq,cV I bq∧cz G cx bq β (σ.freeze [e]) w:=by
   intro z1;refine⟨I,cV.refl I,h.sub λd hT af=>?_⟩;rw[avP]at af;cases eB:σ.get d with
   |none=>rw[eB]at af;cases af
   |some gP=>
    rw[eB]at af;simp only[Option.map_some,Option.some.injEq]at af;split at af
    ·rename_i hm;simp at hm;subst hm;rw[he]at eB;cases eB;rw[z1 hT af]
    ·rw[af]
  cases o with
  |cells T cs=>exact ti (λ_ e=>e.symm)
  |k3 K E bL=>exact ti (λ_ e=>e.symm)
  |hM es clock K E bL=>exact ti (λ_ e=>e.symm)
  |iter cW si kX seen=>exact ti (λ_ e=>e.symm)
  |hdr cW n=>exact ti (λ_ e=>e.symm)
  |win T sz xs=>exact ti (λ_ e=>e.symm)
  |cL fh=>exact ti (λ_ e=>e.symm)
  |e9 T e n dk=>exact ti (λ_ e=>e.symm)
  |iF T sz xs lZ e dk=>exact ti (λ_ e=>e.symm)
  |hU T xs t=>exact ti (λ_ e=>e.symm)
  |vec T xs=>exact ti (λ_ e=>e.symm)
  |kE es clock bL seen=>exact ti (λ_ e=>e.symm)
  |fQ K E e keys dk js=>exact ti (λ_ e=>e.symm)
  |map K E bL=>
   have an:=h.c4 e _ he;simp only[bb]at an;rcases an with h1|⟨r,es,clock,h1,D,aq,aZ,bV,dU⟩
   ·refine⟨I,cV.refl I,{h with c4:=λd o af=>?_,ee:=λd dO af eB=>?_}⟩
    ·rw[avP]at af;cases eB:σ.get d with
     |none=>rw[eB]at af;cases af
     |some gP=>
      rw[eB]at af;simp only[Option.map_some,Option.some.injEq]at af;subst af;split
      ·rename_i hm;simp at hm;subst hm;rw[he]at eB;cases eB;exact .inl h1
      ·exact h.c4 d gP eB
    ·rw[avP,Option.isSome_map]at af eB;exact h.ee d dO af eB
   ·let bq:bG:=λb o=>if b=r∧o=none then some (qF es clock)else I b o
    have hle:cV I bq:=λb o v aa=>by
     show(if b=r∧o=none then some (qF es clock)else I b o)=some v;split
     ·rename_i b0;obtain⟨rfl,rfl⟩:=b0;rw[aZ none]at aa;cases aa
     ·exact aa
    have jH:∀b o,b≠r→bq b o=I b o:=λb o cA=>by
     show(if b=r∧o=none then some (qF es clock)else I b o)=_;rw[if_neg (λb0=>cA b0.1)]
    have Ck:cb (β e)=some r:=by rw[h1];rfl
    refine⟨bq,hle,{good:=λaS o v aa=>?_,iB:=λaS v aa=>?_,kg:=λaS o v aa=>hle _ _ _ (h.kg _ _ _ aa),jX:=λaS U aX o=>?_,frame:=h.frame,size:=h.size,tape:=h.tape,os:=h.os,output:=h.output,drawn:=h.drawn,c4:=λd o af=>?_,ee:=λd dO af eB=>?_,keep:=h.keep}⟩
    ·refine h.good aS o v ?_
     change (if aS=r∧some o=none then some (qF es clock)else I aS o)=some v at aa
     rwa [if_neg (by simp)]at aa
    ·change (if aS=r∧none=none then some (qF es clock)else I aS none)=some v at aa
     split at aa
     ·rename_i b0;obtain⟨rfl,_⟩:=b0;exact⟨es,clock,D,(Option.some.inj aa).symm⟩
     ·exact h.iB aS v aa
    ·have cA:aS≠r:=λe=>by
      subst e;rcases bV with q|q
      ·omega
      ·exact aX q
     rw[jH aS o cA];exact h.jX aS U aX o
    ·rw[avP]at af;cases eB:σ.get d with
     |none=>rw[eB]at af;cases af
     |some gP=>
      rw[eB]at af;simp only[Option.map_some,Option.some.injEq]at af;subst af;by_cases jY:d=e
      ·subst jY;rw[he]at eB;cases eB;simp only[List.mem_singleton,if_true,cE.wP,bb];exact .inr ⟨r,es,clock,h1,by show(if r=r∧none=none then some (qF es clock)else I r none)=_;rw[if_pos ⟨rfl,rfl⟩],n1 hle _ _ aq,bV,dU⟩
      ·have hm:d∉[e]:=by simpa using jY
       rw[if_neg hm];refine(h.c4 d gP eB).N4 hle jH λaS ic cC=>?_;subst cC;exact h.ee d e (by rw[eB];rfl) (by rw[he];rfl) jY aS ic (kL Ck)
    ·rw[avP,Option.isSome_map]at af eB;exact h.ee d dO af eB
  |slice T sz xs k cT=>
   have an:=h.c4 e _ he;simp only[bb]at an;rcases an with h1|⟨h1,rfl,rfl⟩|⟨b,aV,arr,h1,D,aq,aZ,bV,dU,eR,jS,iy,oQ,sC⟩
   ·refine⟨I,cV.refl I,{h with c4:=λd o af=>?_,ee:=λd dO af eB=>?_}⟩
    ·rw[avP]at af;cases eB:σ.get d with
     |none=>rw[eB]at af;cases af
     |some gP=>
      rw[eB]at af;simp only[Option.map_some,Option.some.injEq]at af;subst af;split
      ·rename_i hm;simp at hm;subst hm;rw[he]at eB;cases eB;exact .inl h1
      ·exact h.c4 d gP eB
    ·rw[avP,Option.isSome_map]at af eB;exact h.ee d dO af eB
   ·refine⟨I,cV.refl I,{h with c4:=λd o af=>?_,ee:=λd dO af eB=>?_}⟩
    ·rw[avP]at af;cases eB:σ.get d with
     |none=>rw[eB]at af;cases af
     |some gP=>
      rw[eB]at af;simp only[Option.map_some,Option.some.injEq]at af;subst af;split
      ·rename_i hm;simp at hm;subst hm;rw[he]at eB;cases eB;exact .inr (.inl ⟨h1,rfl,rfl⟩)
      ·exact h.c4 d gP eB
    ·rw[avP,Option.isSome_map]at af eB;exact h.ee d dO af eB
   ·let bq:bG:=I.on λaS o=>if aS=b∧o<xs.length*sz then arr[o]? else I aS o
    have hle:cV I bq:=λaS o v aa=>by
     cases o with
     |none=>exact aa
     |some o=>
     show(if aS=b∧o<xs.length*sz then arr[o]? else I aS o)=some v;split
     ·rename_i b0;obtain⟨rfl,bS⟩:=b0;have ah:=h.good aS o v aa;simp only[World.cell?,aZ]at ah;simpa using ah
     ·exact aa
    have jH:∀aS o,aS≠b→bq aS o=I aS o:=λaS o cA=>by
     cases o with
     |none=>rfl
     |some o=>
     show(if aS=b∧o<xs.length*sz then arr[o]? else I aS o)=_;rw[if_neg (λb0=>cA b0.1)]
    have Ck:cb (β e)=some b:=by rw[h1];rfl
    refine⟨bq,hle,{good:=λaS o v aa=>?_,iB:=h.iB,kg:=λaS o v aa=>hle _ _ _ (h.kg _ _ _ aa),jX:=λaS U aX o=>?_,frame:=h.frame,size:=h.size,tape:=h.tape,os:=h.os,output:=h.output,drawn:=h.drawn,c4:=λd o af=>?_,ee:=λd dO af eB=>?_,keep:=h.keep}⟩
    ·change (if aS=b∧o<xs.length*sz then arr[o]? else I aS o)=some v at aa
     split at aa
     ·rename_i b0;obtain⟨rfl,bS⟩:=b0;simp only[World.cell?,aZ];simpa using aa
     ·exact h.good aS o v aa
    ·have cA:aS≠b:=λe=>by
      subst e;rcases sC with q|q
      ·omega
      ·exact aX q
     rw[jH aS o cA];exact h.jX aS U aX o
    ·rw[avP]at af;cases eB:σ.get d with
     |none=>rw[eB]at af;cases af
     |some gP=>
      rw[eB]at af;simp only[Option.map_some,Option.some.injEq]at af;subst af;by_cases jY:d=e
      ·subst jY;rw[he]at eB;cases eB;simp only[List.mem_singleton,if_true,cE.wP,bb];refine .inr (.inr ⟨b,aV,arr,h1,D,aq,aZ,bV,ni hle _ _ dU,eR,Nat.le_refl _,λ_ o an=>?_,λo an=>?_,sC⟩)
       ·show(if b=b∧o<xs.length*sz then arr[o]? else I b o)=_;rw[if_pos ⟨rfl,an⟩]
       ·show(if b=b∧o<xs.length*sz then arr[o]? else I b o)=_;rw[if_neg (λb0=>by omega)];exact oQ o (Nat.le_trans (Nat.mul_le_mul_right _ jS) an)
      ·have hm:d∉[e]:=by simpa using jY
       rw[if_neg hm]
       have pJ:∀aS∈dA (β d),aS≠b:=λaS ic cC=>by
        subst cC;exact h.ee d e (by rw[eB];rfl) (by rw[he];rfl) jY aS ic (kL Ck)
       exact(h.c4 d gP eB).N4 hle jH pJ
    ·rw[avP,Option.isSome_map]at af eB;exact h.ee d dO af eB
def cz.PB(h:cz G cx I β σ w):∀cT:dI,∃bq,cV I bq∧cz G cx bq β (σ.freeze cT) w:=by
 intro cT;induction cT generalizing σ I with
 |nil=>
  refine⟨I,cV.refl I,h.sub λd o af=>?_⟩;rw[avP]at af;simpa using af
 |cons e r bu=>
  obtain⟨ar4,am5,h1⟩:=h.adJ e;obtain⟨D2,am6,D⟩:=bu h1;refine⟨D2,am5.trans am6,D.sub λd o af=>?_⟩;rw[avP]at af;rw[avP,avP];cases eB:σ.get d with
  |none=>rw[eB]at af;cases af
  |some gP=>
   rw[eB]at af;simp only[Option.map_some,Option.some.injEq]at af ⊢;rw[←af];have amI:gP.wP.wP=gP.wP:=by cases gP<;>rfl
   by_cases jY:d=e
   ·subst jY;by_cases aI:d∈r<;>simp[aI,amI]
   ·by_cases aI:d∈r<;>simp[aI,jY]
end sealing
def cB.freeze(G:cR)(env:au)(σ:ag)(cT:dI):cB G env σ env (σ.freeze cT):=λcx I β a w h b3=>by
 obtain⟨bq,hle,D⟩:=h.PB cT;exact⟨bq,β,D,b3.mono hle (h5.refl β)⟩
def cB.drop{G:cR}{env ek:au}{σ σ2:ag}(he:∀p∈ek,jJ σ (env.get p.1) p.2)(Z:∀p∈σ2,σ.get p.1=some p.2):cB G env σ ek σ2:=λcx I β a w h b3=>by
 have adK:∀(l:au) t,l.get t=.fP∨∃p∈l,p.1=t∧l.get t=p.2:=by
  intro l;induction l with
  |nil=>exact λ_=>.inl rfl
  |cons x r bu=>
   intro t;obtain⟨k,v⟩:=x;rw[avQ];split
   ·rename_i hk;exact .inr ⟨(k,v),by simp,hk,rfl⟩
   ·rcases bu t with h|⟨p,h1,D,aq⟩
    ·exact .inl h
    ·exact .inr ⟨p,by simp[h1],D,aq⟩
 have adL:∀(l:ag) d o,l.get d=some o→∃p∈l,p.1=d∧p.2=o:=by
  intro l;induction l with
  |nil=>intro d o h;simp[ag.get]at h
  |cons x r bu=>
   intro d o h;obtain⟨k,v⟩:=x;rw[avA]at h;split at h
   ·rename_i hk;injection h with h;exact⟨(k,v),by simp,hk,h⟩
   ·obtain⟨p,h1,D,aq⟩:=bu d o h;exact⟨p,by simp[h1],D,aq⟩
 refine⟨I,β,h.sub λd o af=>?_,λt=>?_⟩
 ·obtain⟨p,h1,D,aq⟩:=adL σ2 d o af;rw[←D,←aq];exact Z p h1
 ·rcases adK ek t with h1|⟨p,h1,D,aq⟩
  ·rw[h1];simp[aC]
  ·rw[aq];subst D;exact(he p h1).rep h _ (b3 p.1)
def avZ{G:cR}{c:Code}{Q:Exit→au→ag→Prop}{env:au}{σ:ag}(h:∀cx a w,th G cx env σ a w→c.wp G.P (λe gW w'=>∃g0 aH,th G cx g0 aH gW w'∧Q e g0 aH) a w):aP G c Q env σ:=h
def aP.use{G:cR}{c:Code}{Q:Exit→au→ag→Prop}{env:au}{σ:ag}(h:aP G c Q env σ)(cx:fO)(a:Act)(w:World)(aI:th G cx env σ a w):c.wp G.P (λe gW w'=>∃g0 aH,th G cx g0 aH gW w'∧Q e g0 aH) a w:=h cx a w aI
attribute [irreducible] aP
end
section
mutual
def W.dr(r:Nat→Nat):W→W
 |.agg cs=>.agg (r0 r cs)
 |.c5 cs=>.c5 (r0 r cs)
 |.fn f cs=>.fn f (r0 r cs)
 |.own d=>.own (r d)
 |.ptr d o=>.ptr (r d) o
 |.ja k d=>.ja k (r d)
 |.dm d=>.dm (r d)
 |x=>x
def r0(r:Nat→Nat):List W→List W
 |[]=>[]
 |x::t=>x.dr r::r0 r t
end
mutual
def Ln{I:bG}{β β':Nat→Value}{r:Nat→Nat}{p:Nat→Bool}(h:∀d,p d=false→β' (r d)=β d):∀(x:W) (v:Value),x.refs p=false→aC I β x v→aC I β' (x.dr r) v
 |.fP,_,_,_=>trivial
 |.undef,v,_,q=>by simp only[aC,W.dr]at q ⊢;exact q
 |.int _ _,v,_,q=>by simp only[aC,W.dr]at q ⊢;exact q
 |.bool _,v,_,q=>by simp only[aC,W.dr]at q ⊢;exact q
 |.str _,v,_,q=>by simp only[aC,W.dr]at q ⊢;exact q
 |.bf _ _,v,_,q=>by simp only[aC,W.dr]at q ⊢;exact q
 |.gq _,v,_,q=>by simp only[aC,W.dr]at q ⊢;exact q
 |.c6,v,_,q=>by simp only[aC,W.dr]at q ⊢;exact q
 |.oC,v,_,q=>by simp only[aC,W.dr]at q ⊢;exact q
 |.e7 _ _,v,_,q=>by simp only[aC,W.dr]at q ⊢;exact q
 |.k7,v,_,q=>by simp only[aC,W.dr]at q ⊢;exact q
 |.c7 _,v,_,q=>by simp only[aC,W.dr]at q ⊢;exact q
 |.arr _,v,_,q=>by simp only[aC,W.dr]at q ⊢;exact q
 |.agg cs,v,e,q=>by
   simp only[aC,W.dr,W.refs]at q e ⊢;obtain⟨vs,h1,D⟩:=q;exact⟨vs,h1,AR h cs _ e D⟩
 |.c5 cs,v,e,q=>by
   simp only[aC,W.dr,W.refs]at q e ⊢;obtain⟨vs,h1,D⟩:=q;exact⟨vs,h1,AR h cs _ e D⟩
 |.fn f cs,v,e,q=>by
   simp only[aC,W.dr,W.refs]at q e ⊢;obtain⟨vs,h1,D⟩:=q;exact⟨vs,h1,AR h cs _ e D⟩
 |.own d,v,e,q=>by
   simp only[aC,W.dr,W.refs]at q e ⊢;rw[h d e];exact q
 |.dm d,v,e,q=>by
   simp only[aC,W.dr,W.refs]at q e ⊢;rw[h d e];exact q
 |.ptr d o,v,e,q=>by
   simp only[aC,W.dr,W.refs]at q e ⊢;rw[h d e];exact q
 |.ja k d,v,e,q=>by
   simp only[aC,W.dr,W.refs]at q e ⊢;rw[h d e];exact q
def AR{I:bG}{β β':Nat→Value}{r:Nat→Nat}{p:Nat→Bool}(h:∀d,p d=false→β' (r d)=β d):∀(x:List W) (v:dQ),qa p x=false→b8 I β x v→b8 I β' (r0 r x) v
 |[],_,_,q=>q
 |x::xs,v,e,q=>by
   simp only[b8,r0,qa,Bool.or_eq_false_iff]at q e ⊢;obtain⟨aR,us,h1,D,aq⟩:=q;exact⟨aR,us,h1,Ln h x aR e.1 D,AR h xs us e.2 aq⟩
end
def oe(r:Nat→Nat):Option (j4×Nat)→Option (j4×Nat)
 |none=>none
 |some (i,t)=>some (i,r t)
def cE.dr(r:Nat→Nat):cE→cE
 |.cells T cs=>.cells T (r0 r cs)
 |.iter cW si kX seen=>.iter (r cW) si kX seen
 |.hdr cW n=>.hdr (r cW) n
 |.e9 T e n h=>.e9 T (r e) n (oe r h)
 |.iF T sz xs lZ e h=>.iF T sz xs lZ (r e) (oe r h)
 |.fQ K E e keys h js=>.fQ K E (r e) keys (oe r h) js
 |.hU T xs t=>.hU T xs (r t)
 |o=>o
def au.dr(r:Nat→Nat)(env:au):au:=env.map λp=>(p.1,p.2.dr r)
def ag.dr(r:Nat→Nat)(σ:ag):ag:=σ.map λp=>(r p.1,p.2.dr r)
def awK(r:Nat→Nat):∀(env:au) t,(env.dr r).get t=(env.get t).dr r
 |[],t=>by simp[au.dr,au.get,W.dr]
 |(k,v)::l,t=>by
  have:=awK r l t;simp only[au.dr]at this ⊢;simp only[map_cons,avQ];split
  ·rfl
  ·exact this
def DI(r s:Nat→Nat)(ids:dI)(env:au)(σ:ag):Bool:=
 env.clean (λd=>!Nat.beq (s (r d)) d)&&σ.clean (λd=>!Nat.beq (s (r d)) d)&&ids.all (λd=>Nat.beq (s d) d)
def cB.dr{G:cR}{env:au}{σ:ag}(r s:Nat→Nat)(kI:DI r s G.ids env σ=true):cB G env σ (env.dr r) (σ.dr r):=λcx I β a w h b3=>by
 simp only[DI,Bool.and_eq_true,List.all_eq_true,Nat.beq_eq]at kI;obtain⟨⟨h1,D⟩,aq⟩:=kI
 have U:∀d,(!Nat.beq (s (r d)) d)=false→(λx=>β (s x)) (r d)=β d:=λd af=>by
  have:s (r d)=d:=by simpa using af
  show β (s (r d))=β d;rw[this]
 have obj:∀d o,(σ.dr r).get d=some o→∃d0 gO,σ.get d0=some gO∧d=r d0∧o=gO.dr r∧s (r d0)=d0∧n2 (λd=>!Nat.beq (s (r d)) d) gO=false:=by
  intro d o af
  have key:∀(l:ag),l.clean (λd=>!Nat.beq (s (r d)) d)=true→(ag.dr r l).get d=some o→∃d0 gO,l.get d0=some gO∧d=r d0∧o=gO.dr r∧s (r d0)=d0∧n2 (λd=>!Nat.beq (s (r d)) d) gO=false:=by
   intro l;induction l with
   |nil=>intro _ h;simp[ag.dr,ag.get]at h
   |cons x t bu=>
    obtain⟨k,v⟩:=x;intro ah h;simp only[ag.clean,Bool.and_eq_true,Bool.not_eq_true',Bool.not_eq_false']at ah;simp only[ag.dr,map_cons,avA]at h;have hk:s (r k)=k:=by simpa using ah.1.1
    split at h
    ·rename_i NH;cases h;exact⟨k,v,by simp[avA],NH.symm,rfl,hk,ah.1.2⟩
    ·rename_i NH;obtain⟨d0,gO,ak,ax,aO,aL,bg⟩:=bu ah.2 h;refine⟨d0,gO,?_,ax,aO,aL,bg⟩;rw[avA,if_neg]
     ·exact ak
     ·intro e;subst e;exact NH ax.symm
  exact key σ D af
 refine⟨I,λx=>β (s x),{h with c4:=λd o af=>?_,ee:=λd dO af eB cA b=>?_,keep:=λd af=>?_},λt=>?_⟩
 ·obtain⟨d0,gO,ak,rfl,rfl,aL,bg⟩:=obj d o af;have an:=h.c4 d0 gO ak;cases gO with
  |cells T cs=>
   simp only[bb,cE.dr,aL]at an ⊢;rcases an with q|⟨b,arr,aK,e2,dj,fF⟩
   ·exact .inl q
   ·exact .inr ⟨b,arr,aK,e2,AR (r:=r) U cs _ bg dj,fF⟩
  |slice T sz xs k cT=>simpa only[bb,cE.dr,aL]using an
  |map K E bL=>simpa only[bb,cE.dr,aL]using an
  |win T sz xs=>simpa only[bb,cE.dr,aL]using an
  |k3 K E bL=>simpa only[bb,cE.dr,aL]using an
  |hM es clock K E bL=>simpa only[bb,cE.dr,aL]using an
  |iter cW si kX seen=>
   have e:β (s (r cW))=β cW:=U cW bg;simpa only[bb,cE.dr,aL,e]using an
  |hdr cW n=>
   have e:β (s (r cW))=β cW:=U cW bg;simpa only[bb,cE.dr,aL,e]using an
  |cL fh=>simpa only[bb,cE.dr,aL]using an
  |vec T xs=>simpa only[bb,cE.dr,aL]using an
  |kE es clock bL seen=>simpa only[bb,cE.dr,aL]using an
  |hU T xs t=>
   have e:β (s (r t))=β t:=U t bg;simpa only[bb,cE.dr,aL,e]using an
  |e9 T e n dk=>
   simp only[n2,Bool.or_eq_false_iff]at bg;have aK:β (s (r e))=β e:=U e bg.1
   have b0:∀Z cN,je (λx=>β (s x)) Z cN (oe r dk)↔je β Z cN dk:=λZ cN=>by
    cases dk with
    |none=>exact Iff.rfl
    |some q=>obtain⟨i,t⟩:=q;cases i<;>simp only[je,oe,U t bg.2]
   simpa only[bb,cE.dr,aL,aK,b0]using an
  |iF T sz xs lZ e dk=>
   simp only[n2,Bool.or_eq_false_iff]at bg;have aK:β (s (r e))=β e:=U e bg.1
   have b0:∀Z cN,je (λx=>β (s x)) Z cN (oe r dk)↔je β Z cN dk:=λZ cN=>by
    cases dk with
    |none=>exact Iff.rfl
    |some q=>obtain⟨i,t⟩:=q;cases i<;>simp only[je,oe,U t bg.2]
   simpa only[bb,cE.dr,aL,aK,b0]using an
  |fQ K E e keys dk js=>
   simp only[n2,Bool.or_eq_false_iff]at bg;have aK:β (s (r e))=β e:=U e bg.1
   have b0:∀Z cN,je (λx=>β (s x)) Z cN (oe r dk)↔je β Z cN dk:=λZ cN=>by
    cases dk with
    |none=>exact Iff.rfl
    |some q=>obtain⟨i,t⟩:=q;cases i<;>simp only[je,oe,U t bg.2]
   simpa only[bb,cE.dr,aL,aK,b0]using an
 ·obtain⟨o,af⟩:=Option.isSome_iff_exists.1 af;obtain⟨hT,eB⟩:=Option.isSome_iff_exists.1 eB;obtain⟨d0,gO,ak,rfl,_,aL,_⟩:=obj d o af;obtain⟨d1,iR,de,rfl,_,iS,_⟩:=obj dO hT eB;simp only[aL,iS];exact h.ee d0 d1 (by rw[ak];rfl) (by rw[de];rfl) (λe=>cA (by rw[e])) b
 ·have:=aq d af;simp only[this];exact h.keep d af
 ·rw[awK];exact Ln (r:=r) U _ _ (av0 h1 t) (b3 t)
variable {G:cR}{σ:ag}
def axB{env:au}(t d:Nat)(T:TypeId)(sz:Nat)(aX:env.get t=.c6)(af:σ.get d=none)(hi:G.ids.contains d=false)(ah:env.clean (Nat.beq d)=true)(Z:σ.clean (Nat.beq d)=true):
  cB G env σ ((t,.own d)::env) ((d,.slice T sz [] 0 false)::σ):=λcx I β a w h b3=>by
 let β':Nat→Value:=λx=>if x=d then .slice none 0 0 else β x
 have U:∀x,Nat.beq d x=false→β' x=β x:=λx u=>by
  have:x≠d:=λe=>by subst e;simp at u
  show(if x=d then _ else β x)=_;rw[if_neg this]
 have ga:β' d=.slice none 0 0:=by show(if d=d then _ else _)=_;rw[if_pos rfl]
 refine⟨I,β',{h with c4:=λx o e=>?_,ee:=λx y ex zK cA b=>?_,keep:=λx u=>?_},λaR=>?_⟩
 ·rw[avA]at e;split at e
  ·rename_i u;subst u;cases e
   simp only[bb,ga];exact .inr (.inl ⟨trivial,trivial,trivial⟩)
  ·obtain⟨bk,bK⟩:=avI Z x o e;exact(h.c4 x o e).beta U bk bK
 ·rw[avA]at ex zK;by_cases u:d=x
  ·subst u;rw[ga];simp[Km]
  ·by_cases ai:d=y
   ·subst ai;rw[ga];simp[Km]
   ·rw[if_neg u]at ex;rw[if_neg ai]at zK;rw[U x (by rw[←Bool.not_eq_true,Nat.beq_eq];exact u),U y (by rw[←Bool.not_eq_true,Nat.beq_eq];exact ai)];exact h.ee x y ex zK cA b
 ·have:d≠x:=λe=>by subst e;simp at hi;exact hi u
  rw[U x (by rw[←Bool.not_eq_true,Nat.beq_eq];exact this)];exact h.keep x u
 ·rw[avQ];split
  ·rename_i b5;subst b5;have:=b3 t;rw[aX]at this;simp only[aC,bm]at this;simp only[aC,this,ga,i1,and_self]
  ·exact xh U _ _ (av0 ah aR) (b3 aR)
def W.BP:W→Prop
 |.bf _ xs=>xs.length≤maxLen
 |_=>True
def Mm:List W→Prop
 |[]=>True
 |x::r=>x.BP∧Mm r
def W.aM:W→Prop
 |.bf _ xs=>xs.length≤maxLen
 |.agg cs=>Mm cs
 |_=>True
def BQ:List W→Prop
 |[]=>True
 |x::r=>x.aM∧BQ r
def aC.BP{I:bG}{β:Nat→Value}{a:W}{v:Value}(h:aC I β a v):a.BP:=by
 cases a<;>simp only[W.BP]
 simp only[aC,bm]at h;obtain⟨_,_,_,h1,D,_⟩:=h;omega
def b8.aM{I:bG}{β:Nat→Value}:∀{a:List W} {v:dQ},b8 I β a v→Mm a
 |[],_,_=>trivial
 |x::r,_,h=>by
  simp only[b8]at h;obtain⟨_,_,_,h1,D⟩:=h;exact⟨h1.BP,b8.aM D⟩
def aC.aM{I:bG}{β:Nat→Value}{a:W}{v:Value}(h:aC I β a v):a.aM:=by
 cases a<;>simp only[W.aM]
 ·exact h.BP
 ·simp only[aC]at h;obtain⟨_,_,h⟩:=h;exact h.aM
def b8.BQ{I:bG}{β:Nat→Value}:∀{a:List W} {v:dQ},b8 I β a v→BQ a
 |[],_,_=>trivial
 |x::r,_,h=>by
  simp only[b8]at h;obtain⟨_,_,_,h1,D⟩:=h;exact⟨h1.aM,b8.BQ D⟩
def ag.ids(σ:ag):dI:=σ.map (·.1)
def eT(P:Program)(f:FuncId)(iW:ag)(args:List W)(iA:W→ag→Prop):Prop:=
 ∀(cx:fO) (w:World) (I:bG) (β:Nat→Value) (vs:dQ),cz ⟨P,0,iW.ids⟩ cx I β iW w→b8 I β args vs→
  Calls P f vs.toArray w (λe w'=>∃v,e=.returned v∧∃r aH bq β',iA r aH∧aC bq β' r v∧cz ⟨P,0,iW.ids⟩ cx bq β' aH w')
def eT.mono{P:Program}{f:FuncId}{iW:ag}{args:List W}{iA D7:W→ag→Prop}(h:eT P f iW args iA)(aF:∀r aH,iA r aH→D7 r aH):eT P f iW args D7:=
 λcx w I β vs h1 D=>Calls.mono (h cx w I β vs h1 D) λ_ _ ⟨v,he,r,aH,bq,β',ak,ax,aO⟩=>⟨v,he,r,aH,bq,β',aF _ _ ak,ax,aO⟩
def dR(P:Program)(f:FuncId)(iW:ag)(args:List W)(r:W):Prop:=eT P f iW args (λa aH=>a=r∧aH=iW)
structure dS(P:Program)(T:TypeId)(n:Nat)(dW:Bool):Prop where
 size:∀w,(sizeOf T).run P w=.ok n w
 agg:∀w,(isAgg T).run P w=.ok dW w
def qi(dW:Bool)(n:Nat)(cs:List W):W:=bif dW then .agg (cs.take n)else cs.headD .fP
def CZ{I:bG}{β:Nat→Value}:∀(k:Nat) (cs:List W) (vs:dQ),b8 I β cs vs→b8 I β (cs.drop k) (vs.drop k)
 |0,_,_,h=>by simpa using h
 |k+1,[],vs,h=>by simp only[b8]at h;subst h;simp[b8]
 |k+1,x::r,vs,h=>by
  simp only[b8]at h;obtain⟨aR,us,rfl,_,D⟩:=h;simpa using CZ k r us D
def C0{I:bG}{β:Nat→Value}:∀(k:Nat) (cs:List W) (vs:dQ),b8 I β cs vs→b8 I β (cs.take k) (vs.take k)
 |0,_,_,_=>by simp[b8]
 |k+1,[],vs,h=>by simp only[b8]at h;subst h;simp[b8]
 |k+1,x::r,vs,h=>by
  simp only[b8]at h;obtain⟨aR,us,rfl,h1,D⟩:=h;simp only[take_succ_cons,b8];exact⟨aR,_,rfl,h1,C0 k r us D⟩
def mx(b o n:Nat):Addr.add ⟨b,o,none⟩ n=⟨b,o+n,none⟩:=by
 unfold Addr.add;split<;>simp_all
variable {P:Program}{T:TypeId}{b:Nat}{dW:Bool}{w:World}
def CF{n:Nat}(aT:dS P T n dW){off:Nat}{vs:dQ}(h:∀j,j<n→∃v,vs[j]?=some v∧w.cell? ⟨b,off+j,none⟩=some v)(aX:dW=false→0<n):
  (loadVar T ⟨b,off,none⟩).run P w=.ok (if dW then .agg (vs.take n).toArray else vs.headD undef) w:=by
 unfold loadVar;simp only[Sem.run_bind,aT.agg,Result.andThen_ok];cases dW with
 |true=>
  simp only[if_true,Sem.run_bind,aT.size,Result.andThen_ok];have:(loadCells ⟨b,off,none⟩ n).run P w=.ok (vs.take n).toArray w:=by
   have eH:(vs.take n).length=n:=by
    rw[length_take];rcases Nat.lt_or_ge vs.length n with aJ|aJ
    ·obtain⟨v,h1,_⟩:=h vs.length aJ;simp at h1
    ·omega
   have key:=run_loadCells_list (P:=P) w ⟨b,off,none⟩ (vs.take n) (λj v aa=>by
    rw[getElem?_take]at aa;split at aa
    ·rename_i aY;obtain⟨dM,h1,D⟩:=h j aY;rw[h1]at aa;cases aa;rw[mx];exact D
    ·cases aa)
   rw[eH]at key;exact key
  rw[this];rfl
 |false=>
  obtain⟨v,h1,D⟩:=h 0 (aX rfl);simp only[load];simp only[Bool.false_eq_true,if_false,Sem.run];rw[show(⟨b,off,none⟩:Addr)=⟨b,off+0,none⟩from rfl,D];cases vs with
  |nil=>simp at h1
  |cons x r=>simp at h1;subst h1;rfl
def SF{I:bG}{β:Nat→Value}:∀(xs:cO) (vs:dQ),b8 I β (xs.map (W.int .i64)) vs→vs=xs.map (Value.int .i64)
 |[],vs,h=>by simpa only[map_nil,b8]using h
 |x::r,vs,h=>by
  simp only[map_cons,b8]at h;obtain⟨aR,us,rfl,h1,D⟩:=h;rw[show aR=Value.int .i64 x by simpa [aC,bm]using h1,SF r us D];rfl
def Lo{I:bG}{β:Nat→Value}:∀(xs:cO),b8 I β (xs.map (W.int .i64)) (xs.map (Value.int .i64))
 |[]=>by simp[b8]
 |x::r=>by simp only[map_cons,b8];exact⟨_,_,rfl,by simp[aC,bm],Lo r⟩
variable {I:bG}{β:Nat→Value}
def adM{xs:cO}{v:Value}:aC I β (.agg (xs.map (W.int .i64))) v↔aC I β (.arr xs) v:=by
 simp only[aC,bm];constructor
 ·rintro⟨vs,rfl,h⟩;rw[←SF xs _ h]
 ·rintro rfl;exact⟨_,rfl,by simpa using Lo xs⟩
inductive rj(G:cR)(env:au)(σ:ag):ResultVar→W→Prop
 |tmp (t:Nat):rj G env σ (.tmp t) (env.get t)
 |cell (a T d:Nat) (be n:Nat) (dW:Bool) (cs:List W) (aA:env.get a=.ptr d 0) (af:σ.get d=some (.cells be cs)) (aT:dS G.P T n dW) (aX:cs.length=n) (bJ:dW=false→0<n):rj G env σ (.cell a T) (qi dW n cs)
 |arr (a T d:Nat) (be n:Nat) (xs:cO) (aA:env.get a=.ptr d 0) (af:σ.get d=some (.vec be xs)) (aT:dS G.P T n true) (aX:xs.length=n):rj G env σ (.cell a T) (.arr xs)
def G7(tmps:jc):ResultVar→Sem Value
 |.tmp t=>pure (tmps.getD t undef)
 |.cell a t=>do loadVar t (←asAddr (tmps.getD a undef))
variable {be:TypeId}
def cz.box{cx:fO}(av:cz G cx I β σ w){d:Nat}{cs:List W}(af:σ.get d=some (.cells be cs))(U:cb (β d)=some b):
  ∃arr,β d=.pointer (some ⟨b,0,none⟩)∧w.heap[b]?=some (.cells arr be (0,0))∧b8 I β cs arr.toList∧(∀o,I b o=none)∧Place cx b:=by
 have an:=av.c4 d _ af;simp only[bb]at an;rcases an with q|⟨dY,arr,ak,ax,aO,aL,bg⟩
 ·rw[q]at U;simp[cb]at U
 ·have:dY=b:=by rw[ak]at U;simpa [cb]using U
  subst this;exact⟨arr,ak,ax,aO,aL,bg⟩
def JC{n:Nat}(aT:dS P T n dW)(bJ:dW=false→0<n){off:Nat}{arr:jc}{cs:List W}(U:w.heap[b]?=some (.cells arr be (0,0)))
  (aI:b8 I β cs arr.toList) (aX:off+n≤cs.length):∃v,(loadVar T ⟨b,off,none⟩).run P w=.ok v w∧aC I β (qi dW n (cs.drop off)) v:=by
 have aJ:=tL _ _ aI
 have oS:∀j,j<n→∃v,(arr.toList.drop off)[j]?=some v∧w.cell? ⟨b,off+j,none⟩=some v:=λj aY=>by
  have qx:off+j<arr.toList.length:=by omega
  refine⟨arr.toList[off+j],by rw[getElem?_drop];exact List.getElem?_eq_getElem qx,?_⟩;simp only[World.cell?,U];simpa using List.getElem?_eq_getElem qx
 refine⟨_,CF aT oS bJ,?_⟩;have af:=CZ off _ _ aI;cases dW with
 |true=>
  simp only[qi,cond_true,if_true,aC];exact⟨_,rfl,by simpa using C0 n _ _ af⟩
 |false=>
  simp only[qi,cond_false,Bool.false_eq_true,if_false];generalize cs.drop off=dB at af;cases dB with
  |nil=>simp[aC]
  |cons x r=>
   simp only[b8]at af;obtain⟨aR,us,e,af,_⟩:=af;rw[e];exact af
def rj.run{G:cR}{env:au}{σ:ag}{r:ResultVar}{x:W}(h:rj G env σ r x){cx:fO}{I:bG}{β:Nat→Value}{w:World}{a:Act}(av:cz G cx I β σ w)(b5:mC I β env a):
  ∃v,aC I β x v∧(G7 a.tmps r).run G.P w=.ok v w:=by
 cases h with
 |tmp t=>exact⟨_,b5 t,rfl⟩
 |cell b T d be n dW cs aA af aT aX bJ=>
  have h1:=b5 b;rw[aA]at h1;simp only[aC]at h1;obtain⟨aS,fu,eO⟩:=h1;obtain⟨arr,ak,ax,aO,_⟩:=av.box af fu;obtain⟨v,hw,ha⟩:=JC aT bJ (off:=0) ax aO (by omega);refine⟨v,by simpa using ha,?_⟩;simp only[G7,eO,asAddr,Sem.run_bind,Sem.run_pure,Result.andThen_ok];exact hw
 |arr b T d be n xs aA af aT aX=>
  have h1:=b5 b;rw[aA]at h1;simp only[aC]at h1;obtain⟨aS,fu,eO⟩:=h1;have an:=av.c4 d _ af;simp only[bb]at an;rcases an with q|⟨dY,arr,aK,e2,dj,_⟩
  ·rw[q]at fu;cases fu
  have oR:dY=aS:=by rw[aK]at fu;simpa [cb]using fu
  subst oR;obtain⟨v,hw,ha⟩:=JC (I:=I) (β:=β) (cs:=xs.map (W.int .i64)) aT (by simp) (off:=0) e2 (by rw[dj];exact Lo xs) (by simp;omega);refine⟨v,adM.1 ?_,?_⟩
  ·simp only[qi,cond_true,drop_zero]at ha;rw[take_of_length_le (by simp;omega)]at ha;exact ha
  ·simp only[G7,eO,asAddr,Sem.run_bind,Sem.run_pure,Result.andThen_ok];exact hw
inductive Bm(G:cR)(env:au)(σ:ag):List ResultVar→List W→Prop
 |nil:Bm G env σ [] []
 |cons {r:ResultVar} {x:W} {rs:List ResultVar} {xs:List W} (h:rj G env σ r x) (k:Bm G env σ rs xs):Bm G env σ (r::rs) (x::xs)
def Bm.run{G:cR}{env:au}{σ:ag}{rs:List ResultVar}{xs:List W}(h:Bm G env σ rs xs){cx:fO}{I:bG}{β:Nat→Value}{w:World}{a:Act}(av:cz G cx I β σ w)(b5:mC I β env a):
  ∃vs:dQ,b8 I β xs vs∧(rs.mapM (G7 a.tmps)).run G.P w=.ok vs w∧vs.length=rs.length:=by
 induction h with
 |nil=>exact⟨[],rfl,rfl,rfl⟩
 |cons h _ bu=>
  obtain⟨v,h1,D⟩:=h.run av b5;obtain⟨vs,gy,cn,mb⟩:=bu;refine⟨v::vs,⟨v,vs,rfl,h1,gy⟩,?_,by simp[mb]⟩;simp[mapM_cons,Sem.run_bind,D,cn]
inductive u7(G:cR)(env:au)(σ:ag):List ResultVar→W→Prop
 |zero:u7 G env σ [] (.c5 [])
 |one {r:ResultVar} {x:W} (h:rj G env σ r x):u7 G env σ [r] x
 |two {r s:ResultVar} {x y:W} (h:rj G env σ r x) (k:rj G env σ s y):u7 G env σ [r,s] (.c5 [x,y])
 |three {r s t:ResultVar} {x y z:W} (h:rj G env σ r x) (k:rj G env σ s y) (l:rj G env σ t z):u7 G env σ [r,s,t] (.c5 [x,y,z])
 |more {rs:List ResultVar} {xs:List W} (h:Bm G env σ rs xs) (aJ:4≤rs.length):u7 G env σ rs (.c5 xs)
def u7.run{G:cR}{env:au}{σ:ag}{fn:Func}{x:W}(h:u7 G env σ fn.results.toList x){cx:fO}{I:bG}{β:Nat→Value}{w:World}{a:Act}(av:cz G cx I β σ w)(b5:mC I β env a):
  ∃v,aC I β x v∧(results fn a.tmps).run G.P w=.ok v w:=by
 generalize aJ:fn.results.toList=l at h;have aI:fn.results=l.toArray:=by rw[←aJ]
 have he:results fn a.tmps=(do let vs ←l.toArray.mapM (G7 a.tmps);pure (if h:vs.size=1 then vs[0]else .tuple vs)):=by
  unfold results;rw[aI];rfl
 rw[he];cases h with
 |zero=>exact⟨.tuple #[],by simp[aC,b8],by simp⟩
 |one h=>
  obtain⟨v,h1,D⟩:=h.run av b5;refine⟨v,h1,?_⟩;simp[mapM_cons,Sem.run_bind,D]
 |two h k=>
  obtain⟨v,h1,D⟩:=h.run av b5;obtain⟨aR,gy,cn⟩:=k.run av b5;refine⟨.tuple #[v,aR],?_,?_⟩
  ·simp only[aC];exact⟨_,rfl,v,[aR],rfl,h1,aR,[],rfl,gy,rfl⟩
  ·simp[mapM_cons,Sem.run_bind,D,cn]
 |three h k l=>
  obtain⟨v,h1,D⟩:=h.run av b5;obtain⟨aR,gy,cn⟩:=k.run av b5;obtain⟨t,q6,ku⟩:=l.run av b5;refine⟨.tuple #[v,aR,t],?_,?_⟩
  ·simp only[aC];exact⟨_,rfl,v,[aR,t],rfl,h1,aR,[t],rfl,gy,t,[],rfl,q6,rfl⟩
  ·simp[mapM_cons,Sem.run_bind,D,cn,ku]
 |more h Cq=>
  obtain⟨vs,gy,cn,mb⟩:=h.run av b5;refine⟨.tuple vs.toArray,⟨vs.toArray,rfl,by simpa using gy⟩,?_⟩;have cA:¬vs.length=1:=by omega
  simp[Sem.run_bind,cn,cA]
def Di:Nat→List W→au
 |_,[]=>[]
 |k,x::r=>(k,x)::Di (k+1) r
def YZ{I:bG}{β:Nat→Value}:∀(cN:List W) (vs:dQ) (k t:Nat),b8 I β cN vs→aC I β ((Di k cN).get t) (if k≤t then vs.getD (t-k) undef else undef)∨(Di k cN).get t=.fP
 |[],_,_,_,_=>.inr rfl
 |x::r,vs,k,t,h=>by
  simp only[b8]at h;obtain⟨aR,us,rfl,h1,D⟩:=h;simp only[Di,avQ];split
  ·rename_i hk;subst hk;left;simpa using h1
  ·rename_i hk;rcases YZ r us (k+1) t D with q|q
   ·left;by_cases bS:k+1≤t
    ·rw[if_pos bS]at q;rw[if_pos (by omega),show t-k=(t-(k+1))+1 from by omega,getD_cons_succ];exact q
    ·rw[if_neg bS]at q;rw[if_neg (by omega)];exact q
   ·exact .inr q
def SG(G:cR)(fn:Func)(iA:W→ag→Prop):Exit→au→ag→Prop
 |.normal,env,σ|.ret,env,σ=>∃cT x r aH,u7 G env (σ.freeze cT) fn.results.toList x∧jJ (σ.freeze cT) x r∧(∀p∈aH,(σ.freeze cT).get p.1=some p.2)∧iA r aH
 |_,_,_=>False
def u2:∀(l:ag) d o,l.get d=some o→∃p∈l,p.1=d∧p.2=o:=by
 intro l;induction l with
 |nil=>intro d o h;simp[ag.get]at h
 |cons x r bu=>
  intro d o h;obtain⟨k,v⟩:=x;rw[avA]at h;split at h
  ·rename_i hk;injection h with h;exact⟨(k,v),by simp,hk,h⟩
  ·obtain⟨p,h1,D,aq⟩:=bu d o h;exact⟨p,by simp[h1],D,aq⟩
def eT.enter{f:FuncId}{fn:Func}{c:Code}{iW:ag}{args:List W}{iA:W→ag→Prop}(bA:P.funcs[f]?=some fn)(U:fn.body=some c)(sI:args.length≤fn.ntmps)
  (h:BQ args→aP ⟨P,fn.ntmps,iW.ids⟩ c (SG ⟨P,fn.ntmps,iW.ids⟩ fn iA) (Di 0 args) iW):eT P f iW args iA:=by
 intro cx w I β vs av aI;have eH:=tL _ _ aI;have fU:cz ⟨P,fn.ntmps,iW.ids⟩ cx I β iW w:={av with};refine calls_of_wp bA U ?_;refine wp_mono ((h aI.BQ).use cx _ w ⟨I,β,fU,λt=>?_,?_,rfl⟩) ?_
 ·rcases YZ args vs 0 t aI with q|q
  ·have:((vs.toArray++Array.replicate (fn.ntmps-vs.toArray.size) undef).getD t undef)=vs.getD t undef:=by
    rw[Array.getD_eq_getD_getElem?,Array.getElem?_append,getD_eq_getElem?_getD];split
    ·simp
    ·rename_i amK;have:vs[t]?=none:=List.getElem?_eq_none (by simpa using amK);rw[this,Array.getElem?_replicate];split<;>rfl
   rw[this];simpa using q
  ·rw[q];simp[aC]
 ·simp;omega
 ·rintro e gW w' ⟨g0,aH,⟨bq,β',hw,ha,mJ,ql⟩,bP⟩
  have fin:(∃cT x r σ2,u7 ⟨P,fn.ntmps,iW.ids⟩ g0 (aH.freeze cT) fn.results.toList x∧jJ (aH.freeze cT) x r∧(∀p∈σ2,(aH.freeze cT).get p.1=some p.2)∧iA r σ2)→
    gW.defers=[]∧∃v,(results fn gW.tmps).run P w'=.ok v w'∧(∃ej,Ending.returned v=.returned ej∧∃r aH bq β',iA r aH∧aC bq β' r ej∧cz ⟨P,0,iW.ids⟩ cx bq β' aH w'):=by
   rintro⟨cT,x,r,σ2,ak,ax,aO,aL⟩;obtain⟨D2,hle,rP⟩:=hw.PB cT;obtain⟨v,dV,eu⟩:=ak.run rP (ha.mono hle (h5.refl _));refine⟨ql,v,eu,v,rfl,r,σ2,D2,β',aL,ax.rep rP _ dV,?_⟩
   have:=rP.sub (σ2:=σ2) λd o af=>by
    obtain⟨p,de,ew,e1⟩:=u2 σ2 d o af;rw[←ew,←e1];exact aO p de
   exact{this with}
  cases e with
  |normal=>exact fin bP
  |ret=>exact fin bP
  |exit _=>exact bP.elim
  |goto _=>exact bP.elim
  |panic _=>exact bP.elim
  |outgrown=>exact bP.elim
end
section
def Yields.pure{G:cR}{o:Oper}{ev:Operand→W}{σ:ag}{R:dI}{b9:W}
  (h:∀(aH:ag) (cx:fO) (I:bG) (β:Nat→Value) (w:World) (bn:Operand→Value),(∀d∈R,aH.get d=σ.get d)→cz G cx I β aH w→(∀x∈o.op.operands,aC I β (ev x) (bn x))→
   ∃v,(execOp bn o).run G.P w=.ok (.value v) w∧aC I β b9 v):Yields G o ev σ [] R b9:=by
 intro aH cx I β w bn h1 D _ aZ;obtain⟨v,aI,aa⟩:=h aH cx I β w bn h1 D aZ;rw[aI];exact⟨I,β,aa,D,cV.refl I,λ_ _=>rfl⟩
def aye{G:cR}{o:Oper}{ev:Operand→W}{σ:ag}{R:dI}{b9:W}(h:Yields G o ev σ [] R b9):i2 G o ev σ [] [] (λa aH=>a=b9∧aH=σ):=by
 intro cx I β w bn av u;have:=h σ cx I β w bn (λ_ _=>rfl) av (λd af=>by simp at af) u;generalize (execOp bn o).run G.P w=r at this;cases r with
 |halt x w'=>exact this.elim
 |ok n w'=>
  have key:∀v Bd,(∃bq β',aC bq β' b9 v∧cz G cx bq β' σ Bd∧cV I bq∧(∀d,d∉([]:dI)→β' d=β d))→∃WL aH bq β',(WL=b9∧aH=σ)∧aC bq β' WL v∧cz G cx bq β' aH Bd∧cV I bq∧
    (∀d,d∉([]:dI)→β' d=β d)∧(∀d,d∉([]:dI)→aH.get d=σ.get d):=
   λv Bd ⟨bq,β',ak,ax,aO,aL⟩=>⟨b9,σ,bq,β',⟨rfl,rfl⟩,ak,ax,aO,aL,λ_ _=>rfl⟩
  cases n<;>simp only[pN]at this ⊢
  ·exact key _ _ this
  ·exact key _ _ this
  ·exact Calls.mono this λ_ _ ⟨v,he,aa⟩=>⟨v,he,key _ _ aa⟩
section steps
variable {G:cR}{ops:mg}{s:oo}{log:List (Nat×dI)}{i:Nat}{l:dI}{env:au}{σ:ag}{K:au→ag→Prop}{o:Oper}{b9:W}
def j2.n(bw:o.guard=none):j2 ops o env:=by unfold j2;rw[bw];trivial
def axU{j:Nat}{want p:Bool}{eN:Oper}{hF:Nat}(bw:o.guard=some (j,want))(aY:ops[j]?=some eN)(af:eN.dst=some hF)(he:env.get hF=.bool p)(aF:p=want):j2 ops o env:=by
 unfold j2;rw[bw];exact⟨eN,hF,aY,af,by rw[he,aF]⟩
def axV{j:Nat}{want p:Bool}{eN:Oper}{hF:Nat}(bw:o.guard=some (j,want))(aY:ops[j]?=some eN)(af:eN.dst=some hF)(he:env.get hF=.bool p)(aF:p=!want):ny ops o env:=by
 unfold ny;rw[bw];exact⟨eN,hF,aY,af,.inl (by rw[he,aF])⟩
def ny.undef{j:Nat}{want:Bool}{eN:Oper}{hF:Nat}(bw:o.guard=some (j,want))(aY:ops[j]?=some eN)(af:eN.dst=some hF)(he:env.get hF=.undef):ny ops o env:=by
 unfold ny;rw[bw];exact⟨eN,hF,aY,af,.inr he⟩
def q3(s:oo)(i:Nat):Bool:=!(s.fR&&s.es.contains i)
def xb(s:oo)(i:Nat):Bool:=!s.fR||s.es.contains i
def PO(h:q3 s i=true):s.fR=true→i∉s.es:=λaf=>by simpa [q3,af]using h
def Ry(h:xb s i=true):s.fR=true→i∈s.es:=λaf=>by simpa [xb,af]using h
def L7(σ:ag)(R:dI):Bool:=R.all λd=>(σ.get d).isSome
def aar{R:dI}(h:L7 σ R=true):∀d∈R,(σ.get d).isSome:=λd af=>List.all_eq_true.1 h d af
def C.y{R:dI}(an:ops[i]?=some o)(av:j2 ops o env)(Z:q3 s i=true)(c3:L7 σ R=true)(hZ:Yields G o env.ev σ [] R b9)
  (k:h4 G ops s ((i,R)::log) l (env.put o.dst b9) σ K):h4 G ops s log (i::l) env σ K:=
 ⟨o,an,.inr (.inl ⟨av,PO Z,[],R,b9,σ,awa G σ env,aar c3,λd af=>by simp at af,hZ,k⟩)⟩
def C.skip(an:ops[i]?=some o)(av:ny ops o env)(Z:q3 s i=true)(k:h4 G ops s ((i,[])::log) l (env.put o.dst .undef) σ K):h4 G ops s log (i::l) env σ K:=
 ⟨o,an,.inl ⟨av,PO Z,k⟩⟩
def ax1(an:ops[i]?=some o)(av:ny ops o env)(Z:xb s i=true)(k:h4 G ops s log l (env.put o.dst .undef) σ K):h4 G ops s log (i::l) env σ K:=
 ⟨o,an,.inr (.inr (.inr ⟨av,Ry Z,k⟩))⟩
def C.v{d:Nat}{bc:cE}(an:ops[i]?=some o)(av:j2 ops o env)(Z:q3 s i=true)(hi:G.ids.contains d=false)(he:env.clean [d].contains=true)(ah:σ.clean [d].contains=true)(b0:Vw bc=true)
  (hZ:Yields G o env.ev ((d,bc)::σ) [d] [d] b9) (k:h4 G ops s ((i,[d])::log) l (env.put o.dst b9) ((d,bc)::σ) K):h4 G ops s log (i::l) env σ K:=
 ⟨o,an,.inr (.inl ⟨av,PO Z,[d],[d],b9,(d,bc)::σ,⟨λx u=>by rw[avA,if_neg (λe=>u (by simp[e]))],λx u=>by simp at u;subst u;simpa using hi,he,ah,λx u cW n h=>by simp at u;subst u;rw[avA,if_pos rfl]at h;cases h;cases b0⟩,
  λx u=>by simp at u;subst u;simp[avA],λx u=>u,hZ,k⟩)⟩
def C.e{M news:dI}{Φ:W→ag→Prop}(an:ops[i]?=some o)(av:j2 ops o env)(Z:xb s i=true)(fs:i2 G o env.ev σ M news Φ)(aJ:(!s.fR||u5 s i M log)=true)
  (ah:env.clean news.contains=true) (aX:news.all (λd=>!G.ids.contains d&&(σ.get d).isNone)=true) (k:∀b9 aH,Φ b9 aH→h4 G ops s log l (env.put o.dst b9) aH K):h4 G ops s log (i::l) env σ K:=
 ⟨o,an,.inr (.inr (.inl ⟨av,Ry Z,M,news,Φ,fs,λaf=>by simpa [af]using aJ,ah,λd af=>by
  have:=List.all_eq_true.1 aX d af;simpa using this,k⟩))⟩
def C.zK{R:dI}(an:ops[i]?=some o)(av:j2 ops o env)(Z:xb s i=true)(hZ:Yields G o env.ev σ [] R b9)(k:h4 G ops s log l (env.put o.dst b9) σ K):h4 G ops s log (i::l) env σ K:=by
 have L6:∀log:List (Nat×dI),u5 s i [] log=true:=by
  intro log;induction log with
  |nil=>rfl
  |cons x r N2=>obtain⟨k,R⟩:=x;simp[u5,N2]
 exact C.e an av Z (aye hZ) (by simp[L6]) (av9 env) rfl (λa aH ⟨h1,D⟩=>by subst h1 D;exact k)
def C.nil(k:K env σ):h4 G ops s log [] env σ K:=k
end steps
section ops
variable {G:cR}{o:Oper}{ev:Operand→W}{σ:ag}
def b6.move{x:Operand}(h:o.op=.move x):Yields G o ev σ [] [] (ev x):=
 .pure λ_ _ _ _ w bn _ _ u=>⟨bn x,by simp[execOp,h],u x (by simp[h,Op.operands])⟩
def b6.assign{x:Operand}(h:o.op=.assign x):Yields G o ev σ [] [] (ev x):=
 .pure λ_ _ _ _ w bn _ _ u=>⟨bn x,by simp[execOp,h],u x (by simp[h,Op.operands])⟩
def yI{I:bG}{β:Nat→Value}{b:Bool}{v:Value}(h:aC I β (.bool b) v):v=.bool b:=by simpa [aC,bm]using h
def kY{I:bG}{β:Nat→Value}{k:IntKind}{n:Int}{v:Value}(h:aC I β (.int k n) v):v=.int k n:=by simpa [aC,bm]using h
def SH{I:bG}{β:Nat→Value}{s:ByteArray}{v:Value}(h:aC I β (.str s) v):v=.string s:=by simpa [aC,bm]using h
def b6.pick{c a b:Operand}{p:Bool}(h:o.op=.pick c a b)(ah:ev c=.bool p):Yields G o ev σ [] [] (bif p then ev a else ev b):=
 .pure λ_ _ I β w bn _ _ u=>by
  have h1:=u c (by simp[h,Op.operands]);rw[ah]at h1
  have h1:=yI h1;refine⟨if p then bn a else bn b,by simp[execOp,h,h1,asBool],?_⟩;cases p
  ·exact u b (by simp[h,Op.operands])
  ·exact u a (by simp[h,Op.operands])
def axd{c a b:Operand}{p:Bool}(h:o.op=.pick c a b)(ah:ev c=.bool p)(aF:p=true):Yields G o ev σ [] [] (ev a):=by
 have:=b6.pick (G:=G) (σ:=σ) h ah;rw[aF]at this;exact this
def axe{c a b:Operand}{p:Bool}(h:o.op=.pick c a b)(ah:ev c=.bool p)(aF:p=false):Yields G o ev σ [] [] (ev b):=by
 have:=b6.pick (G:=G) (σ:=σ) h ah;rw[aF]at this;exact this
def IZ(k:IntKind)(n:Int):Prop:=k.wrap n=n
section ints
variable {op:BinOp}{T be:TypeId}{x y:Operand}{k:IntKind}{m n:Int}
def b6.int(h:o.op=.binOp op T x y be)(u:ev x=.int k m)(ai:ev y=.int k n){r:Value}{b9:W}(aX:op≠.shl∧op≠.shr)
  (aI:∀w,(match op with|.add|.sub|.mul=>Op.intArith op k m n|.quo|.rem=>Op.intDiv op k m n|.and|.or|.xor|.andNot=>Op.intBits op k m n|_=>Op.intCmp op m n:Sem Value).run G.P w=.ok r w)
  (sK:∀I β,aC I β b9 r):Yields G o ev σ [] [] b9:=
 .pure λ_ _ I β w bn _ _ hop=>by
  have h1:=hop x (by simp[h,Op.operands]);rw[u]at h1;have h1:=kY h1
  have D:=hop y (by simp[h,Op.operands]);rw[ai]at D;have D:=kY D
  refine⟨r,?_,sK I β⟩;have aK:(eqGuard op T x y (.int k m) (.int k n)).run G.P w=.ok () w:=by
   unfold eqGuard;cases op<;>rfl
  have e2:(binOp op T (.int k m) (.int k n)).run G.P w=.ok r w:=by
   rw[←aI w];cases op<;>first|exact absurd rfl aX.1|exact absurd rfl aX.2|simp[binOp]
  simp[execOp,h,h1,D,aK,e2]
def b6.lss(h:o.op=.binOp .lss T x y be)(u:ev x=.int k m)(ai:ev y=.int k n):Yields G o ev σ [] [] (.bool (decide (m<n))):=
 b6.int h u ai (by decide) (λw=>rfl) (λ_ _=>by simp[aC,bm])
def b6.leq(h:o.op=.binOp .leq T x y be)(u:ev x=.int k m)(ai:ev y=.int k n):Yields G o ev σ [] [] (.bool (decide (m≤n))):=
 b6.int h u ai (by decide) (λw=>rfl) (λ_ _=>by simp[aC,bm])
def b6.gtr(h:o.op=.binOp .gtr T x y be)(u:ev x=.int k m)(ai:ev y=.int k n):Yields G o ev σ [] [] (.bool (decide (n<m))):=
 b6.int h u ai (by decide) (λw=>rfl) (λ_ _=>by simp[aC,bm])
def b6.geq(h:o.op=.binOp .geq T x y be)(u:ev x=.int k m)(ai:ev y=.int k n):Yields G o ev σ [] [] (.bool (decide (n≤m))):=
 b6.int h u ai (by decide) (λw=>rfl) (λ_ _=>by simp[aC,bm])
def b6.eql(h:o.op=.binOp .eql T x y be)(u:ev x=.int k m)(ai:ev y=.int k n):Yields G o ev σ [] [] (.bool (decide (m=n))):=
 b6.int h u ai (by decide) (λw=>rfl) (λ_ _=>by simp only[aC,bm,Value.bool.injEq];rw[Bool.eq_iff_iff];simp)
def b6.neq(h:o.op=.binOp .neq T x y be)(u:ev x=.int k m)(ai:ev y=.int k n):Yields G o ev σ [] [] (.bool (!decide (m=n))):=
 b6.int h u ai (by decide) (λw=>rfl) (λ_ _=>by simp only[aC,bm,Value.bool.injEq];rw[Bool.eq_iff_iff];simp)
def ax9(h:o.op=.binOp .add T x y be)(u:ev x=.int k m)(ai:ev y=.int k n):Yields G o ev σ [] [] (.int k (k.wrap (m+n))):=
 b6.int h u ai (by decide) (λw=>rfl) (λ_ _=>by simp only[aC,bm])
def axq(h:o.op=.binOp .sub T x y be)(u:ev x=.int k m)(ai:ev y=.int k n):Yields G o ev σ [] [] (.int k (k.wrap (m-n))):=
 b6.int h u ai (by decide) (λw=>rfl) (λ_ _=>by simp only[aC,bm])
def axw(h:o.op=.binOp .mul T x y be)(u:ev x=.int k m)(ai:ev y=.int k n):Yields G o ev σ [] [] (.int k (k.wrap (m*n))):=
 b6.int h u ai (by decide) (λw=>rfl) (λ_ _=>by simp only[aC,bm])
def b6.rem(h:o.op=.binOp .rem T x y be)(u:ev x=.int k m)(ai:ev y=.int k n)(aX:n≠0):Yields G o ev σ [] [] (.int k (m.tmod n)):=
 b6.int h u ai (by decide) (λw=>by simp[Op.intDiv,aX];rfl) (λ_ _=>by simp only[aC,bm])
def mQ(op:BinOp)(k:IntKind)(m n:Int):Int:=
 let a:=BitVec.ofInt k.bits m
 let b:=BitVec.ofInt k.bits n
 match op with
 |.and=>k.wrap (a &&& b).toNat
 |.or=>k.wrap (a ||| b).toNat
 |.xor=>k.wrap (a ^^^ b).toNat
 |.andNot=>k.wrap (a &&& ~~~b).toNat
 |_=>0
def b6.and(h:o.op=.binOp .and T x y be)(u:ev x=.int k m)(ai:ev y=.int k n):Yields G o ev σ [] [] (.int k (mQ .and k m n)):=
 b6.int h u ai (by decide) (λw=>rfl) (λ_ _=>by simp[aC,bm,mQ])
def b6.or(h:o.op=.binOp .or T x y be)(u:ev x=.int k m)(ai:ev y=.int k n):Yields G o ev σ [] [] (.int k (mQ .or k m n)):=
 b6.int h u ai (by decide) (λw=>rfl) (λ_ _=>by simp[aC,bm,mQ])
def b6.xor(h:o.op=.binOp .xor T x y be)(u:ev x=.int k m)(ai:ev y=.int k n):Yields G o ev σ [] [] (.int k (mQ .xor k m n)):=
 b6.int h u ai (by decide) (λw=>rfl) (λ_ _=>by simp[aC,bm,mQ])
def b6.andNot(h:o.op=.binOp .andNot T x y be)(u:ev x=.int k m)(ai:ev y=.int k n):Yields G o ev σ [] [] (.int k (mQ .andNot k m n)):=
 b6.int h u ai (by decide) (λw=>rfl) (λ_ _=>by simp[aC,bm,mQ])
def b6.shift{er:IntKind}(hop:op=.shl∨op=.shr)(h:o.op=.binOp op T x y be)(u:ev x=.int k m)(ai:ev y=.int er n)(aX:0≤n):
  Yields G o ev σ [] [] (.int k (match op with|.shl=>k.wrap (m*2 ^ min n.toNat k.bits)|_=>m.fdiv (2 ^ min n.toNat k.bits))):=
 .pure λ_ _ I β w bn _ _ zc=>by
  have h1:=zc x (by simp[h,Op.operands]);rw[u]at h1;have h1:=kY h1
  have D:=zc y (by simp[h,Op.operands]);rw[ai]at D;have D:=kY D
  have Cs:¬n<0:=by omega
  rcases hop with rfl|rfl
  ·refine⟨_,by simp[execOp,h,h1,D,eqGuard,binOp,Op.shift,Cs];rfl,by simp[aC,bm]⟩
  ·refine⟨_,by simp[execOp,h,h1,D,eqGuard,binOp,Op.shift,Cs];rfl,by simp[aC,bm]⟩
end ints
def b6.not{T:TypeId}{x:Operand}{b:Bool}(h:o.op=.unOp .not T x)(u:ev x=.bool b):Yields G o ev σ [] [] (.bool (!b)):=
 .pure λ_ _ I β w bn _ _ hop=>by
  have h1:=hop x (by simp[h,Op.operands]);rw[u]at h1;have h1:=yI h1
  exact⟨.bool (!b),by simp[execOp,h,h1,Op.unary],by simp[aC,bm]⟩
def b6.convert{T be:TypeId}{x:Operand}{k er:IntKind}{n:Int}(h:o.op=.convert T be x)(u:ev x=.int k n)(aT:∃d,G.P.underlying T=some d)(Nk:G.P.underlying be=some (.int er)):Yields G o ev σ [] [] (.int er (er.wrap n)):=
 .pure λ_ _ I β w bn _ _ hop=>by
  have h1:=hop x (by simp[h,Op.operands]);rw[u]at h1;have h1:=kY h1
  obtain⟨d,af⟩:=aT;have aK:∀w,(underlying T).run G.P w=.ok d w:=λw=>by simp[underlying,program,Sem.run,af]
  have e2:∀w,(underlying be).run G.P w=.ok (.int er) w:=λw=>by simp[underlying,program,Sem.run,Nk]
  refine⟨.int er (er.wrap n),?_,by simp[aC,bm]⟩;simp only[execOp,h,h1];unfold Go.convert;simp only[Sem.run_bind,aK,e2,Result.andThen_ok];cases d<;>rfl
def Yj{P:Program}(op:BinOp)(t:TypeId)(x y:Operand)(a b:Bool)(w:World):(eqGuard op t x y (.bool a) (.bool b)).run P w=.ok () w:=by
 unfold eqGuard;cases op<;>rfl
def aqG{P:Program}(T:TypeId)(a b:Bool)(w:World)(aT:P.underlying T=some .bool):(binOp .eql T (.bool a) (.bool b)).run P w=.ok (.bool (a==b)) w:=by
 show(do pure (.bool (←Op.equal T (.bool a) (.bool b))):Sem Value).run P w=_;rw[Sem.run_bind,run_equal_bool w T a b aT];rfl
def aqH{P:Program}(T:TypeId)(a b:Bool)(w:World)(aT:P.underlying T=some .bool):(binOp .neq T (.bool a) (.bool b)).run P w=.ok (.bool (!(a==b))) w:=by
 show(do pure (.bool (!(←Op.equal T (.bool a) (.bool b)))):Sem Value).run P w=_;rw[Sem.run_bind,run_equal_bool w T a b aT];rfl
def axj{T be:TypeId}{x y:Operand}{a b:Bool}(h:o.op=.binOp .eql T x y be)(u:ev x=.bool a)(ai:ev y=.bool b)(aT:G.P.underlying T=some .bool):Yields G o ev σ [] [] (.bool (a==b)):=
 .pure λ_ _ I β w bn _ _ hop=>by
  have h1:=hop x (by simp[h,Op.operands]);rw[u]at h1;have h1:=yI h1
  have D:=hop y (by simp[h,Op.operands]);rw[ai]at D;have D:=yI D
  exact⟨.bool (a==b),by simp only[execOp,h,h1,D,Sem.run_bind,Yj,aqG T a b w aT,Result.andThen_ok,Sem.run_pure],by simp[aC,bm]⟩
def axk{T be:TypeId}{x y:Operand}{a b:Bool}(h:o.op=.binOp .neq T x y be)(u:ev x=.bool a)(ai:ev y=.bool b)(aT:G.P.underlying T=some .bool):Yields G o ev σ [] [] (.bool (!(a==b))):=
 .pure λ_ _ I β w bn _ _ hop=>by
  have h1:=hop x (by simp[h,Op.operands]);rw[u]at h1;have h1:=yI h1
  have D:=hop y (by simp[h,Op.operands]);rw[ai]at D;have D:=yI D
  exact⟨.bool (!(a==b)),by simp only[execOp,h,h1,D,Sem.run_bind,Yj,aqH T a b w aT,Result.andThen_ok,Sem.run_pure],by simp[aC,bm]⟩
mutual
def valOf:W→Value
 |.int k n=>.int k n
 |.bool b=>.bool b
 |.str s=>.string s
 |.agg cs=>.agg (GR cs).toArray
 |_=>undef
def GR:List W→dQ
 |[]=>[]
 |x::r=>valOf x::GR r
end
mutual
def W.plain:W→Bool
 |.int _ _=>true
 |.bool _=>true
 |.str _=>true
 |.agg cs=>KP cs
 |_=>false
def KP:List W→Bool
 |[]=>true
 |x::r=>x.plain&&KP r
end
mutual
def AH{I:bG}{β:Nat→Value}:∀(a:W) (v:Value),a.plain=true→aC I β a v→v=valOf a
 |.int k n,v,_,h=>kY h
 |.bool b,v,_,h=>yI h
 |.str s,v,_,h=>SH h
 |.agg cs,v,aF,h=>by
  simp only[aC]at h;obtain⟨vs,rfl,h⟩:=h;simp only[valOf,←Zb cs vs.toList (by simpa [W.plain]using aF) h]
 |.fP,_,aF,_|.undef,_,aF,_|.bf _ _,_,aF,_|.gq _,_,aF,_|.c5 _,_,aF,_|.fn _ _,_,aF,_|.c6,_,aF,_|.oC,_,aF,_|.own _,_,aF,_|.ptr _ _,_,aF,_|.dm _,_,aF,_|.e7 _ _,_,aF,_|.k7,_,aF,_|.ja _ _,_,aF,_=>by simp[W.plain]at aF
def Zb{I:bG}{β:Nat→Value}:∀(a:List W) (v:dQ),KP a=true→b8 I β a v→v=GR a
 |[],v,_,h=>h
 |x::r,v,aF,h=>by
  simp only[b8]at h;simp only[KP,Bool.and_eq_true]at aF;obtain⟨aR,us,rfl,h1,D⟩:=h;simp only[GR,←AH x aR aF.1 h1,←Zb r us aF.2 D]
end
def axt{T be:TypeId}{x y:Operand}{a b:W}{r:Bool}(h:o.op=.binOp .eql T x y be)(u:ev x=a)(ai:ev y=b)(OD:a.plain=true)(pb:b.plain=true)(he:∀w,(do eqGuard .eql T x y (valOf a) (valOf b);binOp .eql T (valOf a) (valOf b):Sem Value).run G.P w=.ok (.bool r) w):
  Yields G o ev σ [] [] (.bool r):=
 .pure λ_ _ I β w bn _ _ hop=>by
  have h1:=hop x (by simp[h,Op.operands]);rw[u]at h1;have h1:=AH a _ OD h1
  have D:=hop y (by simp[h,Op.operands]);rw[ai]at D;have D:=AH b _ pb D
  refine⟨.bool r,?_,by simp[aC,bm]⟩;have:=he w;simp only[execOp,h,h1,D];rw[Sem.run_bind,this];rfl
def axp{T be:TypeId}{x y:Operand}{a b:W}{r:Bool}(h:o.op=.binOp .neq T x y be)(u:ev x=a)(ai:ev y=b)(OD:a.plain=true)(pb:b.plain=true)(he:∀w,(do eqGuard .neq T x y (valOf a) (valOf b);binOp .neq T (valOf a) (valOf b):Sem Value).run G.P w=.ok (.bool r) w):
  Yields G o ev σ [] [] (.bool r):=
 .pure λ_ _ I β w bn _ _ hop=>by
  have h1:=hop x (by simp[h,Op.operands]);rw[u]at h1;have h1:=AH a _ OD h1
  have D:=hop y (by simp[h,Op.operands]);rw[ai]at D;have D:=AH b _ pb D
  refine⟨.bool r,?_,by simp[aC,bm]⟩;have:=he w;simp only[execOp,h,h1,D];rw[Sem.run_bind,this];rfl
structure hr(P:Program)(T:TypeId)(f off:Nat):Prop where
 run:∀(a:Addr) w,(Instr.fieldAt T (.pointer (some a)) f).run P w=.ok (.pointer (some (a.add off))) w
def Y0{I:bG}{b:Nat}:∀(k:Nat) (cs:List W) (o:Nat),l1 I b cs o→l1 I b (cs.drop k) (o+k)
 |0,cs,o,h=>by simpa using h
 |k+1,[],o,h=>by simp[l1]
 |k+1,x::r,o,h=>by
  simp only[l1]at h;have:=Y0 k r (o+1) h.2;simpa [show o+1+k=o+(k+1)from by omega]using this
def aw5{T:TypeId}{x:Operand}{f off d p:Nat}(h:o.op=.fieldAddr T x f)(u:ev x=.ptr d p)(bA:hr G.P T f off):Yields G o ev σ [] [] (.ptr d (p+off)):=
 .pure λ_ _ I β w bn _ _ hop=>by
  have h1:=hop x (by simp[h,Op.operands]);rw[u]at h1
  simp only[aC]at h1;obtain⟨b,h1,D⟩:=h1;refine⟨.pointer (some ⟨b,p+off,none⟩),?_,by simp only[aC];exact⟨b,h1,rfl⟩⟩;simp[execOp,h,D,bA.run,mx]
def aw4{T:TypeId}{x:Operand}{f off:Nat}{cs:List W}(h:o.op=.fieldAddr T x f)(u:ev x=.gq cs)(bA:hr G.P T f off):Yields G o ev σ [] [] (.gq (cs.drop off)):=
 .pure λ_ _ I β w bn _ _ hop=>by
  have h1:=hop x (by simp[h,Op.operands]);rw[u]at h1
  simp only[aC,bm]at h1;obtain⟨b,p,h1,D⟩:=h1;refine⟨.pointer (some ⟨b,p+off,none⟩),?_,by simp only[aC,bm];exact⟨b,p+off,rfl,Y0 off cs p D⟩⟩;simp[execOp,h,h1,bA.run,mx]
def OZ{I:bG}{b:Nat}{w:World}(bw:∀b (o:Nat) v,I b o=some v→w.cell? ⟨b,o,none⟩=some v):∀(cs:List W) (o:Nat),l1 I b cs o→
  ∃vs:dQ,ds I cs vs∧∀j v,vs[j]?=some v→w.cell? ⟨b,o+j,none⟩=some v
 |[],o,_=>⟨[],rfl,λj v h=>by simp at h⟩
 |x::r,o,h=>by
  simp only[l1]at h;obtain⟨⟨aR,h1,D⟩,aq⟩:=h;obtain⟨vs,aZ,bV⟩:=OZ bw r (o+1) aq;refine⟨aR::vs,⟨aR,vs,rfl,D,aZ⟩,λj v aa=>?_⟩;cases j with
  |zero=>simp at aa;subst aa;exact bw _ _ _ h1
  |succ j=>
   have:=bV j v (by simpa using aa)
   rwa [show o+(j+1)=o+1+j from by omega]
mutual
def bm.rep{I:bG}(β:Nat→Value):∀(a:W) (v:Value),bm I a v→aC I β a v
 |.fP,_,_=>by simp[aC]
 |.undef,_,h=>by simpa only[aC]using h
 |.int _ _,_,h=>by simpa only[aC]using h
 |.bool _,_,h=>by simpa only[aC]using h
 |.str _,_,h=>by simpa only[aC]using h
 |.bf _ _,_,h=>by simpa only[aC]using h
 |.gq _,_,h=>by simpa only[aC]using h
 |.c6,_,h=>by simpa only[aC]using h
 |.oC,_,h=>by simpa only[aC]using h
 |.e7 _ _,_,h=>by simpa only[aC]using h
 |.k7,_,h=>by simpa only[aC]using h
 |.c7 _,_,h=>by simpa only[aC]using h
 |.arr _,_,h=>by simpa only[aC]using h
 |.agg cs,v,h=>by
  simp only[bm,aC]at h ⊢;obtain⟨vs,h1,D⟩:=h;exact⟨vs,h1,ds.rep β cs _ D⟩
 |.c5 cs,v,h=>by
  simp only[bm,aC]at h ⊢;obtain⟨vs,h1,D⟩:=h;exact⟨vs,h1,ds.rep β cs _ D⟩
 |.fn f cs,v,h=>by
  simp only[bm,aC]at h ⊢;obtain⟨vs,h1,D⟩:=h;exact⟨vs,h1,ds.rep β cs _ D⟩
 |.own _,_,h=>by simp[bm]at h
 |.ptr _ _,_,h=>by simp[bm]at h
 |.ja _ _,_,h=>by simp[bm]at h
 |.dm _,_,h=>by simp[bm]at h
def ds.rep{I:bG}(β:Nat→Value):∀(a:List W) (v:dQ),ds I a v→b8 I β a v
 |[],_,h=>h
 |x::r,v,h=>by
  simp only[ds,b8]at h ⊢;obtain⟨aR,us,h1,D,aq⟩:=h;exact⟨aR,us,h1,bm.rep β x aR D,ds.rep β r us aq⟩
end
def ax5{T be:TypeId}{x:Operand}{n d p:Nat}{dW:Bool}{cs:List W}(h:o.op=.load T x)(u:ev x=.ptr d p)(af:σ.get d=some (.cells be cs))(aT:dS G.P T n dW)(bJ:(dW||Nat.blt 0 n)=true)(aX:Nat.ble (p+n) cs.length=true):
  Yields G o ev σ [] [d] (qi dW n (cs.drop p)):=
 .pure λaH cx I β w bn c3 av hop=>by
  have h1:=hop x (by simp[h,Op.operands]);rw[u]at h1
  simp only[aC]at h1;obtain⟨b,h1,D⟩:=h1;obtain⟨arr,ak,ax,aO,_⟩:=av.box (by rw[c3 d (by simp)];exact af) h1;obtain⟨v,hw,ha⟩:=JC aT (λe=>by subst e;simpa using bJ) (off:=p) ax aO (by simpa using aX);exact⟨v,by simp[execOp,h,D,Instr.loadAt,Instr.sureAddr,hw],ha⟩
def ax6{T:TypeId}{x:Operand}{n:Nat}{dW:Bool}{cs:List W}(h:o.op=.load T x)(u:ev x=.gq cs)(aT:dS G.P T n dW)(bJ:(dW||Nat.blt 0 n)=true)(aX:Nat.ble n cs.length=true):
  Yields G o ev σ [] [] (qi dW n cs):=
 .pure λaH cx I β w bn c3 av hop=>by
  have h1:=hop x (by simp[h,Op.operands]);rw[u]at h1
  simp only[aC,bm]at h1;obtain⟨b,p,h1,D⟩:=h1;obtain⟨vs,aq,aZ⟩:=OZ av.good cs p D;have aJ:=qW _ _ aq;have aX:n≤cs.length:=by simpa using aX
  have oS:∀j,j<n→∃v,vs[j]?=some v∧w.cell? ⟨b,p+j,none⟩=some v:=λj aY=>by
   have qx:j<vs.length:=by omega
   exact⟨vs[j],List.getElem?_eq_getElem qx,aZ j _ (List.getElem?_eq_getElem qx)⟩
  refine⟨_,by simp only[execOp,h,h1,Instr.loadAt,Instr.sureAddr,Sem.run_bind,Sem.run_pure,Result.andThen_ok,CF aT oS (λe=>by subst e;simpa using bJ)];rfl,?_⟩;have af:=ds.rep β _ _ aq;cases dW with
  |true=>
   simp only[qi,cond_true,if_true,aC];exact⟨_,rfl,by simpa using C0 n _ _ af⟩
  |false=>
   simp only[qi,cond_false,Bool.false_eq_true,if_false];cases cs with
   |nil=>simp[aC]
   |cons x r=>
    simp only[b8]at af;obtain⟨aR,us,e,af,_⟩:=af;rw[e];exact af
structure lT(P:Program)(T E n:Nat):Prop where
 gT:P.underlying T=some (.slice E)
 size:∀w,(sizeOf E).run P w=.ok n w
def Zc{I:bG}{b sz:Nat}:∀(xs:List (List W)) (o i:Nat),(∀e∈xs,e.length=sz)→kf I b xs o→i<xs.length→l1 I b (xs.getD i []) (o+i*sz)
 |[],_,_,_,_,h=>by simp at h
 |e::r,o,0,_,h,_=>by simp only[kf]at h;simpa using h.1
 |e::r,o,i+1,aJ,h,hi=>by
  simp only[kf]at h;have he:=aJ e (by simp);have:=Zc r (o+e.length) i (λx u=>aJ x (by simp[u])) h.2 (by simpa using hi);rw[he]at this;have e2:o+sz+i*sz=o+(i+1)*sz:=by rw[Nat.add_mul,Nat.one_mul];omega
  rw[e2]at this;simpa using this
def awM{α:Type}{T E:Nat}{x:Operand}{f:Bool}{rs:List α}{enc:α→List W}{k}(h:o.op=.call ⟨.builtin .len,#[x],k⟩)(hk:k=#[T])(u:ev x=.bf f (rs.map enc))(aT:G.P.underlying T=some (.slice E)):Yields G o ev σ [] [] (.int .i64 (rs.length:Int)):=
 .pure λaH cx I β w bn c3 av hop=>by
  subst hk;have h1:=hop x (by simp[h,Op.operands,Call.operands]);rw[u]at h1
  simp only[aC,bm,length_map]at h1;obtain⟨a,c,h1,_⟩:=h1;have aK:∀w,(underlying T).run G.P w=.ok (.slice E) w:=λw=>by simp[underlying,program,Sem.run,aT]
  exact⟨.int .i64 rs.length,by simp[execOp,h,resolve,invoke,builtin,Builtin.len_,h1,aK,goInt],by simp[aC,bm]⟩
def axl{T E:Nat}{x:Operand}{k}(h:o.op=.call ⟨.builtin .len,#[x],k⟩)(hk:k=#[T])(u:ev x=.c6)(aT:G.P.underlying T=some (.slice E)):Yields G o ev σ [] [] (.int .i64 0):=
 .pure λaH cx I β w bn c3 av hop=>by
  subst hk;have h1:=hop x (by simp[h,Op.operands,Call.operands]);rw[u]at h1
  simp only[aC,bm]at h1;have aK:∀w,(underlying T).run G.P w=.ok (.slice E) w:=λw=>by simp[underlying,program,Sem.run,aT]
  exact⟨.int .i64 0,by simp[execOp,h,resolve,invoke,builtin,Builtin.len_,h1,aK,goInt],by simp[aC,bm]⟩
def axm{T:Nat}{x:Operand}{s:ByteArray}{k}(h:o.op=.call ⟨.builtin .len,#[x],k⟩)(hk:k=#[T])(u:ev x=.str s)(aT:G.P.underlying T=some .string):Yields G o ev σ [] [] (.int .i64 (s.size:Int)):=
 .pure λaH cx I β w bn c3 av hop=>by
  subst hk;have h1:=hop x (by simp[h,Op.operands,Call.operands]);rw[u]at h1;have h1:=SH h1
  have aK:∀w,(underlying T).run G.P w=.ok .string w:=λw=>by simp[underlying,program,Sem.run,aT]
  exact⟨.int .i64 s.size,by simp[execOp,h,resolve,invoke,builtin,Builtin.len_,h1,aK,goInt],by simp[aC,bm]⟩
def Zd{G:cR}{cx:fO}{I:bG}{β:Nat→Value}{σ:ag}{w:World}(av:cz G cx I β σ w){d:Nat}{T sz k:Nat}{cT:Bool}{xs:List (List W)}(af:σ.get d=some (.slice T sz xs k cT)){v:Value}(aa:aC I β (.own d) v):
  ∃a c,v=.slice a xs.length c∧xs.length≤c∧c≤maxLen:=by
 simp only[aC]at aa;obtain⟨rfl,Z⟩:=aa;have:=av.c4 d _ af;simp only[bb]at this;rcases this with h1|⟨h1,rfl,_⟩|⟨b,aV,arr,h1,D,aq,_⟩
 ·rw[h1]at Z;simp[i1]at Z
 ·exact⟨none,0,h1,by simp,by simp[maxLen]⟩
 ·exact⟨_,aV,h1,D,aq⟩
def ax7{α:Type}{T E:Nat}{x:Operand}{d be sz n:Nat}{cT:Bool}{rs:List α}{enc:α→List W}{k}(h:o.op=.call ⟨.builtin .len,#[x],k⟩)(hk:k=#[T])(u:ev x=.own d)(af:σ.get d=some (.slice be sz (rs.map enc) n cT))(aT:G.P.underlying T=some (.slice E)):Yields G o ev σ [] [d] (.int .i64 (rs.length:Int)):=
 .pure λaH cx I β w bn c3 av hop=>by
  subst hk;have h1:=hop x (by simp[h,Op.operands,Call.operands]);rw[u]at h1
  obtain⟨a,c,h1,_⟩:=Zd av (by rw[c3 d (by simp)];exact af) h1;have aK:∀w,(underlying T).run G.P w=.ok (.slice E) w:=λw=>by simp[underlying,program,Sem.run,aT]
  exact⟨.int .i64 rs.length,by simp[execOp,h,resolve,invoke,builtin,Builtin.len_,h1,aK,goInt],by simp[aC,bm]⟩
def Kl{I:bG}{β:Nat→Value}:∀{xs:List W} {vs:dQ} {j:Nat} {a:W},b8 I β xs vs→xs[j]?=some a→∃v,vs[j]?=some v∧aC I β a v
 |[],_,_,_,_,h=>by simp at h
 |x::r,vs,0,a,h,aY=>by
  simp only[b8]at h;obtain⟨aR,us,rfl,h1,_⟩:=h;simp at aY;subst aY
  exact⟨aR,by simp,h1⟩
 |x::r,vs,j+1,a,h,aY=>by
  simp only[b8]at h;obtain⟨aR,us,rfl,_,D⟩:=h;obtain⟨v,aq,aZ⟩:=Kl D (by simpa using aY);exact⟨v,by simpa using aq,aZ⟩
def b6.extract{x:Operand}{j:Nat}{vs:List W}{a:W}(h:o.op=.extract x j)(u:ev x=.c5 vs)(aY:vs[j]?=some a):Yields G o ev σ [] [] a:=
 .pure λaH cx I β w bn c3 av hop=>by
  have h1:=hop x (by simp[h,Op.operands]);rw[u]at h1
  simp only[aC]at h1;obtain⟨us,h1,D⟩:=h1;obtain⟨v,aq,aZ⟩:=Kl D aY;have aq:us[j]?=some v:=by simpa using aq
  exact⟨v,by simp[execOp,h,h1,Instr.extract,aq],aZ⟩
def awW{x:Operand}{d p:Nat}(h:o.op=.nilCheck x)(u:ev x=.ptr d p):Yields G o ev σ [] [] (.ptr d p):=
 .pure λaH cx I β w bn c3 av hop=>by
  have h1:=hop x (by simp[h,Op.operands]);rw[u]at h1
  have D:=h1;simp only[aC]at h1;obtain⟨b,_,h1⟩:=h1;exact⟨bn x,by simp[execOp,h,h1],D⟩
def awU{x:Operand}{cs:List W}(h:o.op=.nilCheck x)(u:ev x=.gq cs):Yields G o ev σ [] [] (.gq cs):=
 .pure λaH cx I β w bn c3 av hop=>by
  have h1:=hop x (by simp[h,Op.operands]);rw[u]at h1
  have D:=h1;simp only[aC,bm]at h1;obtain⟨b,p,h1,_⟩:=h1;exact⟨bn x,by simp[execOp,h,h1],D⟩
end ops
end
section
structure g1(w w':World)(b:Nat):Prop where
 block:∀k,k≠b→k<w.heap.size→w'.heap[k]?=w.heap[k]?
 size:w.heap.size≤w'.heap.size
 tape:w'.tape=w.tape
 os:w'.os=w.os
 output:w'.output=w.output
 drawn:w.drawn≤w'.drawn
def hQ{w:World}{b:Nat}{x:Obj}(h:w.heap[b]?=some x):b<w.heap.size:=(Array.getElem?_eq_some_iff.1 h).1
def bb.keep{cx:fO}{I bq:bG}{β β':Nat→Value}{w w':World}{x:Nat}{o:cE}{b:Nat}(h:bb cx I β w x o)(hk:g1 w w' b)(u:β' x=β x)(Vp:b∉dA (β x))(hle:cV I bq)(ef:∀aS,aS≠b→∀o,bq aS o=I aS o)(b0:h5 β β'):
  bb cx bq β' w' x o:=by
 have cA:cb (β x)≠some b:=λe=>Vp (kL e);cases o with
 |cL fh=>
  simp only[bb,u]at h ⊢;rcases h with q|⟨Z,ak,ax⟩
  ·exact .inl q
  ·refine .inr ⟨Z,ak,ax.go hle λaS ic=>?_⟩;have U:aS≠b:=λe=>Vp (by rw[ak,←e];exact ic);exact⟨λbS=>hk.block aS U bS,ef aS U,id⟩
 |hU T xs t=>
  simp only[bb,u]at h ⊢;rcases h with q|⟨aS,aV,arr,ak,ax,aO,aL,bg,bI,b7,cD,dz,dT,fG⟩
  ·exact .inl q
  ·have U:aS≠b:=λe=>cA (by rw[ak,e];rfl);have aK:β' t=β t:=by
    rcases b0 t with aK|aK
    ·exact absurd aK dz
    ·exact aK
   exact .inr ⟨aS,aV,arr,ak,ax,aO,(hk.block aS U (hQ aL)).trans aL,bg,ni hle _ _ bI,b7,by rw[aK];exact cD,by rw[aK];exact dz,λo=>(ef aS U o).trans (dT o),fG⟩
 |vec T xs=>
  simp only[bb,u]at h ⊢;rcases h with q|⟨aS,arr,ak,ax,aO,aL,bg⟩
  ·exact .inl q
  ·have U:aS≠b:=λe=>cA (by rw[ak,e];rfl);exact .inr ⟨aS,arr,ak,(hk.block aS U (hQ ax)).trans ax,aO,λo=>(ef aS U o).trans (aL o),bg⟩
 |kE es clock bL seen=>
  simp only[bb,u]at h ⊢;rcases h with q|⟨r,gd,ak,ax,aO,aL,bg,bI,b7⟩
  ·exact .inl q
  ·have U:r≠b:=λe=>cA (by rw[ak,e];rfl);exact .inr ⟨r,gd,ak,(hk.block r U (hQ ax)).trans ax,hle _ _ _ aO,n1 hle _ _ aL,bg,λo=>(ef r U o).trans (bI o),b7⟩
 |e9 T e n dk=>
  simp only[bb,u]at h ⊢;rcases h with q|⟨aS,aV,arr,Z,ak,ax,aO,aL,bg,bI,b7,cD,dz,dT⟩
  ·exact .inl q
  ·have U:aS≠b:=λe=>cA (by rw[ak,e];rfl);have aK:β' e=β e:=by
    rcases b0 e with aK|aK
    ·rw[aK]at bI;cases bI
    ·exact aK
   exact .inr ⟨aS,aV,arr,Z,ak,ax,aO,(hk.block aS U (hQ aL)).trans aL,bg,by rw[aK];exact bI,b7,cD.hle b0,λo=>(ef aS U o).trans (dz o),dT⟩
 |iF T sz xs lZ e dk=>
  simp only[bb,u]at h ⊢;rcases h with q|⟨aS,aV,arr,Z,vs,ak,ax,aO,aL,bg,bI,b7,cD,dz,dT⟩
  ·exact .inl q
  ·have U:aS≠b:=λe=>cA (by rw[ak,e];rfl);have aK:β' e=β e:=by
    rcases b0 e with aK|aK
    ·rw[aK]at bI;cases bI
    ·exact aK
   exact .inr ⟨aS,aV,arr,Z,vs,ak,ax,aO,(hk.block aS U (hQ aL)).trans aL,bg,by rw[aK];exact bI,b7,⟨ni hle _ _ cD.1,cD.2.1,cD.2.2.hle b0⟩,λo=>(ef aS U o).trans (dz o),dT⟩
 |fQ K E e keys dk js=>
  simp only[bb,u]at h ⊢;rcases h with q|⟨r,es,clock,Z,cN,ak,ax,aO,aL,bg,bI,b7,cD⟩
  ·exact .inl q
  ·have U:r≠b:=λe=>cA (by rw[ak,e];rfl);have aK:β' e=β e:=by
    rcases b0 e with aK|aK
    ·rw[aK]at aO;cases aO
    ·exact aK
   exact .inr ⟨r,es,clock,Z,cN,ak,(hk.block r U (hQ ax)).trans ax,by rw[aK];exact aO,aL.hle b0,bg.mono hle,λo=>(ef r U o).trans (bI o),b7,cD⟩
 |cells T cs=>
  simp only[bb,u]at h ⊢;rcases h with q|⟨aS,arr,ak,ax,aO,aL,bg⟩
  ·exact .inl q
  ·have U:aS≠b:=λe=>cA (by rw[ak,e];rfl);exact .inr ⟨aS,arr,ak,(hk.block aS U (hQ ax)).trans ax,vP hle b0 _ _ aO,λo=>(ef aS U o).trans (aL o),bg⟩
 |slice T sz xs k cT=>
  simp only[bb,u]at h ⊢;rcases h with q|q|⟨aS,aV,arr,ak,ax,aO,aL,bg,bI,b7,cD,dz,dT,fG⟩
  ·exact .inl q
  ·exact .inr (.inl q)
  ·have U:aS≠b:=λe=>cA (by rw[ak,e];rfl);exact .inr (.inr ⟨aS,aV,arr,ak,ax,aO,(hk.block aS U (hQ aL)).trans aL,bg,ni hle _ _ bI,b7,cD,λhz o an=>(ef aS U o).trans (dz hz o an),λo an=>(ef aS U o).trans (dT o an),fG⟩)
 |win T sz xs=>
  simp only[bb,u]at h ⊢;rcases h with q|q|⟨aS,hT,aV,arr,ak,ax,aO,aL,bg,bI,b7,cD,dz⟩
  ·exact .inl q
  ·exact .inr (.inl q)
  ·have U:aS≠b:=λe=>cA (by rw[ak,e];rfl);exact .inr (.inr ⟨aS,hT,aV,arr,ak,ax,aO,(hk.block aS U (hQ aL)).trans aL,bg,Ax hle _ _ _ bI,b7,λhz o an=>(ef aS U o).trans (cD hz o an),dz⟩)
 |map K E bL=>
  simp only[bb,u]at h ⊢;rcases h with q|⟨r,es,clock,ak,ax,aO,aL,bg⟩
  ·exact .inl q
  ·have U:r≠b:=λe=>cA (by rw[ak,e];rfl);exact .inr ⟨r,es,clock,ak,(hk.block r U (hQ ax)).trans ax,n1 hle _ _ aO,λo=>(ef r U o).trans (aL o),bg⟩
 |k3 K E bL=>
  simp only[bb,u]at h ⊢;rcases h with q|⟨r,es,clock,ak,ax,aO,aL⟩
  ·exact .inl q
  ·exact .inr ⟨r,es,clock,ak,hle _ _ _ ax,n1 hle _ _ aO,aL⟩
 |hM es clock K E bL=>
  simp only[bb,u]at h ⊢;rcases h with q|⟨r,ak,ax,aO,aL,bg⟩
  ·exact .inl q
  ·have U:r≠b:=λe=>cA (by rw[ak,e];rfl);exact .inr ⟨r,ak,(hk.block r U (hQ ax)).trans ax,n1 hle _ _ aO,λo=>(ef r U o).trans (aL o),bg⟩
 |iter cW si kX seen=>
  simp only[bb,u]at h ⊢;rcases h with q|⟨r,gd,ak,ax,aO,aL,bg⟩
  ·exact .inl q
  ·have U:r≠b:=λe=>cA (by rw[ak,e];rfl);have OG:cb (β' cW)=some gd:=by
    rcases b0 cW with e|e
    ·rw[e]at ax;simp[cb]at ax
    ·rw[e];exact ax
   exact .inr ⟨r,gd,ak,OG,(hk.block r U (hQ aO)).trans aO,λo=>(ef r U o).trans (aL o),bg⟩
 |hdr cW n=>
  simp only[bb,u]at h ⊢;obtain⟨ak,a,c,ax⟩:=h;rcases b0 cW with e|e
  ·rw[e]at ax;cases ax
  ·exact⟨ak,a,c,by rw[e];exact ax⟩
def l8.at{cx:fO}{I:bG}{w:World}{x:jo}{v:Value}(h:l8 cx I w x v){b:Nat}(U:cb v=some b):b<w.heap.size∧Place cx b:=by
 cases x with
 |sl T sz xs=>
  rcases h with⟨h,_⟩|⟨aS,aV,arr,h1,_,_,aZ,_,_,_,_,iy⟩
  ·rw[h]at U;simp[cb]at U
  ·rw[h1]at U;simp[cb]at U;subst U;exact⟨hQ aZ,iy⟩
 |mp K E bL=>
  obtain⟨r,es,clock,h1,D,_,_,bV,_⟩:=h;rw[h1]at U;simp[cb]at U;subst U;exact⟨hQ D,bV⟩
def ko.at{cx:fO}{I:bG}{w:World}:∀{fh:List jo} {vs:dQ},ko cx I w fh vs→∀{b:Nat},b∈vs.filterMap cb→b<w.heap.size∧Place cx b
 |[],_,h,b,U=>by rw[show _=[]from h]at U;cases U
 |x::r,_,h,b,U=>by
  obtain⟨aR,us,rfl,h1,_,aq⟩:=h;obtain⟨v,aa,e⟩:=List.mem_filterMap.1 U;rcases mem_cons.1 aa with rfl|aa
  ·exact h1.at e
  ·exact aq.at (List.mem_filterMap.2 ⟨v,aa,e⟩)
section turn
variable {G:cR}{cx:fO}{I:bG}{β:Nat→Value}{σ:ag}{w:World}
def cz.turn(h:cz G cx I β σ w){σ2:ag}{bq:bG}{β':Nat→Value}{w':World}{b d:Nat}(hk:g1 w w' b)(aF:Place cx b)(uW:∀x,x≠d→σ2.get x=σ.get x)
  (rN:∀x,x≠d→(σ.get x).isSome→b∉dA (β x)) (hle:cV I bq) (ef:∀aS,aS≠b→∀o,bq aS o=I aS o) (A6:∀(o:Nat) v,bq b o=some v→w'.cell? ⟨b,o,none⟩=some v)
  (Ag:bq b none=none) (mB:∀x,x≠d→β' x=β x) (anM:d∉G.ids∨β' d=β d) (b0:h5 β β') (ga:cb (β' d)=some b∨dA (β' d)=[]) (an:∀o,σ2.get d=some o→bb cx bq β' w' d o):cz G cx bq β' σ2 w' where
 good:=λaS o v aa=>by
  by_cases U:aS=b
  ·subst U;exact A6 o v aa
  ·rw[ef aS U]at aa;have h1:=h.good aS o v aa;have bS:aS<w.heap.size:=by
    have:=World.block_lt_of_cell? w _ h1;exact this
   rw[World.cell?_of_block (w:=w) (hk.block aS U bS)];exact h1
 iB:=λaS v aa=>by
  by_cases U:aS=b
  ·subst U;rw[Ag]at aa;cases aa
  ·rw[ef aS U]at aa;obtain⟨es,clock,h1,D⟩:=h.iB aS v aa;exact⟨es,clock,by rw[hk.block aS U (hQ h1)];exact h1,D⟩
 kg:=h.kg.trans hle
 jX:=λaS U aX o=>by
  have:aS≠b:=λe=>by
   subst e;rcases aF with q|q
   ·omega
   ·exact aX q
  rw[ef aS this];exact h.jX aS U aX o
 frame:=λaS U aX=>by
  have:aS≠b:=λe=>by
   subst e;rcases aF with q|q
   ·omega
   ·exact aX q
  rw[hk.block aS this (by have:=h.size;omega)];exact h.frame aS U aX
 size:=Nat.le_trans h.size hk.size
 tape:=hk.tape.trans h.tape
 os:=hk.os.trans h.os
 output:=hk.output.trans h.output
 drawn:=Nat.le_trans h.drawn hk.drawn
 c4:=λx o u=>by
  by_cases pK:x=d
  ·subst pK;exact an o u
  ·rw[uW x pK]at u;exact(h.c4 x o u).keep hk (mB x pK) (rN x pK (by rw[u];rfl)) hle ef b0
 ee:=λx y u ai cA aS=>by
  by_cases pK:x=d
  ·subst pK;rw[uW y (Ne.symm cA)]at ai;rw[mB y (Ne.symm cA)];intro e cC;rcases ga with q|q
   ·have:=Gm q e;subst this;exact rN y (Ne.symm cA) ai cC
   ·rw[q]at e;cases e
  ·rw[uW x pK]at u;rw[mB x pK];by_cases sW:y=d
   ·subst sW;intro e cC;rcases ga with q|q
    ·have:=Gm q cC;subst this;exact rN x pK u e
    ·rw[q]at cC;cases cC
   ·rw[uW y sW]at ai;rw[mB y sW];exact h.ee x y u ai cA aS
 keep:=λx u=>by
  by_cases pK:x=d
  ·subst pK;rcases anM with q|q
   ·exact absurd u q
   ·rw[q];exact h.keep x u
  ·rw[mB x pK];exact h.keep x u
def cz.GS(h:cz G cx I β σ w){x:Nat}{o:cE}(u:σ.get x=some o){b:Nat}(zX:b∈dA (β x)):b<w.heap.size∧Place cx b:=by
 have an:=h.c4 x o u;by_cases mS:∃fh,o=.cL fh
 ·obtain⟨fh,rfl⟩:=mS;simp only[bb]at an;rcases an with q|⟨Z,ak,ax⟩
  ·rw[q]at zX;cases zX
  ·rw[ak]at zX;exact ax.at zX
 have U:cb (β x)=some b:=by
  cases aa:β x with
  |tuple vs=>
   exfalso;cases o<;>simp only[bb,aa]at an<;>first|exact mS ⟨_,rfl⟩|(simp at an)
  |_=>rw[aa]at zX;simpa [dA]using zX
 clear zX;cases o with
 |cL fh=>exact absurd ⟨fh,rfl⟩ mS
 |hU T xs t=>
  simp only[bb]at an;rcases an with q|⟨aS,aV,arr,ak,_,_,aL,_,_,_,_,_,_,fG⟩
  ·rw[q]at U;simp[cb]at U
  ·rw[ak]at U;simp[cb]at U;subst U;exact⟨hQ aL,fG⟩
 |vec T xs=>
  simp only[bb]at an;rcases an with q|⟨aS,arr,ak,ax,_,_,bg⟩
  ·rw[q]at U;simp[cb]at U
  ·rw[ak]at U;simp[cb]at U;subst U;exact⟨hQ ax,bg⟩
 |kE es clock bL seen=>
  simp only[bb]at an;rcases an with q|⟨r,gd,ak,ax,_,_,_,_,b7⟩
  ·rw[q]at U;simp[cb]at U
  ·rw[ak]at U;simp[cb]at U;subst U;exact⟨hQ ax,b7⟩
 |e9 T e n dk=>
  simp only[bb]at an;rcases an with q|⟨aS,aV,arr,Z,ak,_,_,aL,_,_,_,_,_,dT⟩
  ·rw[q]at U;simp[cb]at U
  ·rw[ak]at U;simp[cb]at U;subst U;exact⟨hQ aL,dT⟩
 |iF T sz xs lZ e dk=>
  simp only[bb]at an;rcases an with q|⟨aS,aV,arr,Z,vs,ak,_,_,aL,_,_,_,_,_,dT⟩
  ·rw[q]at U;simp[cb]at U
  ·rw[ak]at U;simp[cb]at U;subst U;exact⟨hQ aL,dT⟩
 |fQ K E e keys dk js=>
  simp only[bb]at an;rcases an with q|⟨r,es,clock,Z,cN,ak,ax,_,_,_,_,b7,_⟩
  ·rw[q]at U;simp[cb]at U
  ·rw[ak]at U;simp[cb]at U;subst U;exact⟨hQ ax,b7⟩
 |cells T cs=>
  simp only[bb]at an;rcases an with q|⟨aS,arr,ak,ax,_,_,bg⟩
  ·rw[q]at U;simp[cb]at U
  ·rw[ak]at U;simp[cb]at U;subst U;exact⟨hQ ax,bg⟩
 |slice T sz xs k cT=>
  simp only[bb]at an;rcases an with q|⟨q,_⟩|⟨aS,aV,arr,ak,_,_,aL,_,_,_,_,_,_,fG⟩
  ·rw[q]at U;simp[cb]at U
  ·rw[q]at U;simp[cb]at U
  ·rw[ak]at U;simp[cb]at U;subst U;exact⟨hQ aL,fG⟩
 |win T sz xs=>
  simp only[bb]at an;rcases an with q|⟨q,_⟩|⟨aS,hT,aV,arr,ak,_,_,aL,_,_,_,_,dz⟩
  ·rw[q]at U;simp[cb]at U
  ·rw[q]at U;simp[cb]at U
  ·rw[ak]at U;simp[cb]at U;subst U;exact⟨hQ aL,dz⟩
 |map K E bL=>
  simp only[bb]at an;rcases an with q|⟨r,es,clock,ak,ax,_,_,bg,_⟩
  ·rw[q]at U;simp[cb]at U
  ·rw[ak]at U;simp[cb]at U;subst U;exact⟨hQ ax,bg⟩
 |k3 K E bL=>
  simp only[bb]at an;rcases an with q|⟨r,es,clock,ak,ax,_,bg,_⟩
  ·rw[q]at U;simp[cb]at U
  ·rw[ak]at U;simp[cb]at U;subst U
   obtain⟨_,_,h1,_⟩:=h.iB _ _ ax;exact⟨hQ h1,bg⟩
 |hM es clock K E bL=>
  simp only[bb]at an;rcases an with q|⟨r,ak,ax,_,_,bg,_⟩
  ·rw[q]at U;simp[cb]at U
  ·rw[ak]at U;simp[cb]at U;subst U;exact⟨hQ ax,bg⟩
 |iter cW si kX seen=>
  simp only[bb]at an;rcases an with q|⟨r,gd,ak,_,aO,_,bg⟩
  ·rw[q]at U;simp[cb]at U
  ·rw[ak]at U;simp[cb]at U;subst U;exact⟨hQ aO,bg⟩
 |hdr cW n=>
  simp only[bb]at an;rw[an.1]at U;simp[cb]at U
def cz.uc(h:cz G cx I β σ w){x:Nat}{o:cE}(u:σ.get x=some o){b:Nat}(U:b∈dA (β x)):b<w.heap.size:=(h.GS u U).1
def cz.jG(h:cz G cx I β σ w){b:Nat}(U:w.heap.size≤b)(o:j4):I b o=none:=by
 cases aa:I b o with
 |none=>rfl
 |some v=>
  cases o with
  |none=>
   obtain⟨es,clock,h1,_⟩:=h.iB b v aa;have:=hQ h1;omega
  |some o=>
   have:=World.block_lt_of_cell? w _ (h.good b o v aa);simp at this;omega
def cz.aaB(h:cz G cx I β σ w){b:Nat}{o:Obj}(U:w.heap[b]?=some o)(aX:∀es c,o≠.map es c):I b none=none:=by
 cases aa:I b none with
 |none=>rfl
 |some v=>
  obtain⟨es,clock,h1,_⟩:=h.iB b v aa;rw[U]at h1;cases h1
  exact absurd rfl (aX es clock)
def cz.tK(h:cz G cx I β σ w){b:Nat}{arr:jc}{T:TypeId}{cT:Nat×Nat}(U:w.heap[b]?=some (.cells arr T cT)):I b none=none:=h.aaB U λ_ _=>by simp
def g1.alloc(w:World)(o:Obj):g1 w (w.alloc o) w.heap.size:=
 ⟨λk _ bS=>heap_alloc_old w o k bS,by simp,rfl,rfl,rfl,Nat.le_refl _⟩
def g1.setRow(w:World)(g:Nat)(cs:jc):g1 w (w.setRow g cs) g:=
 ⟨λk hk _=>setRow_other w g k cs hk,by simp,rfl,rfl,rfl,Nat.le_refl _⟩
def g1.drew{w w':World}{b:Nat}(h:g1 w.drew w' b):g1 w w' b:=⟨h.block,h.size,h.tape,h.os,h.output,Nat.le_trans (Nat.le_succ _) h.drawn⟩
def hy(β:Nat→Value)(d:Nat)(v:Value):Nat→Value:=λx=>if x=d then v else β x
def gX(β:Nat→Value)(d:Nat)(v:Value):hy β d v d=v:=by simp[hy]
def iu(β:Nat→Value){d x:Nat}(v:Value)(h:x≠d):hy β d v x=β x:=by simp[hy,h]
def avY{β:Nat→Value}{d:Nat}{v:Value}(h:β d=.nilFunc):h5 β (hy β d v):=λx=>by
 by_cases u:x=d
 ·subst u;exact .inl h
 ·exact .inr (iu β v u)
def cz.real(h:cz G cx I β σ w){d:Nat}(af:d∉G.ids)(aX:β d=.nilFunc){o:Obj}{v:Value}(aa:cb v=some w.heap.size)(an:∀bc,σ.get d=some bc→bb cx I (hy β d v) (w.alloc o) d bc):
  cz G cx I (hy β d v) σ (w.alloc o):=
 h.turn (g1.alloc w o) (.inl h.size) (λ_ _=>rfl) (λx u Z e=>by
   obtain⟨bc,Z⟩:=Option.isSome_iff_exists.1 Z;exact absurd (h.uc Z e) (by omega)) (cV.refl I) (λ_ _ _=>rfl) (λhT dM o1=>by rw[h.jG (Nat.le_refl _)]at o1;cases o1) (h.jG (Nat.le_refl _) none)
  (λx u=>iu β v u) (.inl af) (avY aX) (.inl (by rw[gX];exact aa)) an
def cz.lay(h:cz G cx I β σ w)(vs:jc)(E:TypeId):∃bq,cV I bq∧(∀(o:Nat) v,vs[o]?=some v→bq w.heap.size o=some v)∧cz G cx bq β σ (w.alloc (.cells vs E)):=by
  let bq:bG:=I.on λb o=>if b=w.heap.size then vs[o]? else I b o
  have hle:cV I bq:=λb o v aa=>by
    cases o with
    |none=>exact aa
    |some o=>
    show(if b=w.heap.size then vs[o]? else I b o)=some v;split
    · rename_i e;subst e;rw[h.jG (Nat.le_refl _)]at aa;cases aa
    · exact aa
  refine⟨bq,hle,λo v aa=>by show(if _ then _ else _)=_;rw[if_pos rfl];exact aa,?_⟩;have z1:∃d,σ.get d=none:=by
    have:∀(l:ag),∃n,∀m,n≤m→l.get m=none:=by
      intro l;induction l with
      |nil=>exact⟨0,λ_ _=>rfl⟩
      |cons x r bu=>
        obtain⟨n,aX⟩:=bu;obtain⟨k,v⟩:=x;exact⟨max n (k+1),λm hm=>by rw[avA,if_neg (by omega)];exact aX m (by omega)⟩
    obtain⟨n,aX⟩:=this σ;exact⟨n,aX n (Nat.le_refl n)⟩
  obtain⟨d,af⟩:=z1
  refine{good:=λaS o v aa=>?_,iB:=λaS v aa=>?_,kg:=h.kg.trans hle,jX:=λaS U aX o=>?_,frame:=λaS U aX=>?_,size:=Nat.le_trans h.size (by simp),tape:=h.tape,os:=h.os,output:=h.output,drawn:=h.drawn,
         c4:=λx o u=>?_,ee:=h.ee,keep:=h.keep}
  · change (if aS=w.heap.size then vs[o]? else I aS o)=some v at aa
    split at aa
    · rename_i e;subst e
      rw[World.cell?_alloc_new];exact aa
    · have h1:=h.good aS o v aa
      have bS:=World.block_lt_of_cell? w _ h1;rw[World.cell?_alloc_lt w _ _ bS];exact h1
  · obtain⟨es,clock,h1,D⟩:=h.iB aS v aa
    exact⟨es,clock,by rw[heap_alloc_old w _ aS (hQ h1)];exact h1,D⟩
  · have:aS≠w.heap.size:=by have:=h.size;omega
    cases o with
    |none=>exact h.jX aS U aX none
    |some o=>
    show(if aS=w.heap.size then vs[o]? else I aS o)=_;rw[if_neg this];exact h.jX aS U aX o
  · rw[heap_alloc_old w _ aS (by have:=h.size;omega)]
    exact h.frame aS U aX
  · refine(h.c4 x o u).keep (b:=w.heap.size) (g1.alloc w _) rfl (λe=>absurd (h.uc u e) (by omega)) hle (λaS U o=>?_) (h5.refl β)
    cases o with
    |none=>rfl
    |some o=>
    show(if aS=w.heap.size then vs[o]? else I aS o)=_;rw[if_neg U]
end turn
def qC:W→List W
 |.agg cs=>cs
 |a=>[a]
def uE.one:uE→Bool
 |.row _=>false
 |_=>true
def W.one:W→Bool
 |.int _ _=>true|.bool _=>true|.str _=>true|.bf _ _=>true|.gq _=>true|.fn _ _=>true|.c6=>true|.oC=>true|.own _=>true|.ptr _ _=>true|.dm _=>true|.e7 _ _=>true|.k7=>true|.ja k _=>k.one|.c7 _=>true
 |_=>false
def awT{I:bG}{β:Nat→Value}{a:W}{v:Value}(h:a.one=true)(aI:aC I β a v):v.oneCell'=true∧v.cells=#[v]:=by
 cases a<;>simp only[W.one]at h<;>first|cases h|skip
 all_goals simp only[aC,bm]at aI
 all_goals first
  |(subst aI;exact⟨rfl,rfl⟩)
  |(obtain⟨_,_,rfl,_⟩:=aI;exact⟨rfl,rfl⟩)
  |(obtain⟨_,_,_,rfl,_⟩:=aI;exact⟨rfl,rfl⟩)
  |(obtain⟨_,rfl,_⟩:=aI;exact⟨rfl,rfl⟩)
  |(rename_i k d;cases k<;>simp only[uE.one]at h<;>first|cases h|skip
    all_goals simp only[uE.rep]at aI
    all_goals first|(obtain⟨b,U,rfl⟩:=aI;exact⟨rfl,rfl⟩)|(obtain⟨_,_,_,_,_,_,rfl⟩:=aI;exact⟨rfl,rfl⟩))
  |(obtain⟨_,_,rfl⟩:=aI;exact⟨rfl,rfl⟩)
  |(obtain⟨rfl,D⟩:=aI
    rename_i d;cases U:β d<;>rw[U]at D<;>first|(simp[i1]at D;done)|(simp[nV]at D;done)|exact⟨rfl,rfl⟩)
def W.flat:W→Bool
 |.agg cs=>cs.all W.one
 |a=>a.one
def PR{I:bG}{β:Nat→Value}:∀(cs:List W) (vs:dQ),cs.all W.one=true→b8 I β cs vs→∀v∈vs,v.oneCell'=true
 |[],vs,_,h=>by simp only[b8]at h;subst h;simp
 |x::r,vs,ah,h=>by
  simp only[b8]at h;simp only[all_cons,Bool.and_eq_true]at ah;obtain⟨aR,us,rfl,h1,D⟩:=h;intro v aa;rcases mem_cons.1 aa with rfl|aa
  ·exact(awT ah.1 h1).1
  ·exact PR r us ah.2 D v aa
def awl{I:bG}{β:Nat→Value}{a:W}{v:Value}(h:a.flat=true)(aI:aC I β a v):b8 I β (qC a) v.cells.toList∧∀aR∈v.cells.toList,aR.oneCell'=true:=by
 by_cases aA:∃cs,a=.agg cs
 ·obtain⟨cs,rfl⟩:=aA;simp only[aC]at aI;obtain⟨vs,rfl,aI⟩:=aI;simp only[W.flat]at h;exact⟨aI,PR cs _ h aI⟩
 ·have h1:a.one=true:=by cases a<;>first|exact h|exact absurd ⟨_,rfl⟩ aA
  have D:qC a=[a]:=by cases a<;>first|rfl|exact absurd ⟨_,rfl⟩ aA
  obtain⟨aq,aZ⟩:=awT h1 aI;rw[D,aZ];exact⟨⟨v,[],rfl,aI,rfl⟩,by simpa using aq⟩
section ops
variable {G:cR}{o:Oper}{ev:Operand→W}{σ:ag}
def b6.alloc{T d:Nat}{zs:dQ}(h:o.op=.alloc T)(hz:∀w,∃z,(zeroValue T).run G.P w=.ok z w∧z.cells=zs.toArray)(hi:G.ids.contains d=false):
  Yields G o ev ((d,.cells T (s5 zs))::σ) [d] [d] (.ptr d 0):=by
 intro aH cx I β w bn c3 av hm hop;obtain⟨z,ji,hN⟩:=hz w;have eV:(execOp bn o).run G.P w=.ok (.value (.pointer (some ⟨w.heap.size,0,none⟩))) (w.alloc (.cells zs.toArray T)):=by
  simp[execOp,h,Instr.alloc,ji,newVar,newRow,hN]
 rw[eV];have mB:=hm d (by simp);refine⟨I,hy β d (.pointer (some ⟨w.heap.size,0,none⟩)),by simp only[aC];exact⟨w.heap.size,by rw[gX];rfl,rfl⟩,?_,cV.refl I,λx u=>iu β _ (λe=>u (by simp[e]))⟩;refine av.real (by simpa using hi) mB rfl λbc cG=>?_;rw[c3 d (by simp),avA,if_pos rfl]at cG;injection cG with cG
 subst cG;simp only[bb,gX];exact .inr ⟨w.heap.size,zs.toArray,rfl,heap_alloc_new w _,by simpa using Kj I _ zs,λo=>av.jG (Nat.le_refl _) o,.inl av.size⟩
def b6.box{T d:Nat}{x:Operand}{a:W}{cs:List W}(h:o.op=.box T x)(u:ev x=a)(bA:a.flat=true)(ah:qC a=cs)(aI:a.refs (Nat.beq d)=false)(hi:G.ids.contains d=false):
  Yields G o ev ((d,.cells T cs)::σ) [d] [d] (.ptr d 0):=by
 intro aH cx I β w bn c3 av hm hop;have cr:=hop x (by simp[h,Op.operands]);rw[u]at cr;have eV:(execOp bn o).run G.P w=.ok (.value (.pointer (some ⟨w.heap.size,0,none⟩))) (w.alloc (.cells (bn x).cells T)):=by
  simp[execOp,h,Instr.box,newVar,newRow]
 rw[eV];have mB:=hm d (by simp);refine⟨I,hy β d (.pointer (some ⟨w.heap.size,0,none⟩)),by simp only[aC];exact⟨w.heap.size,by rw[gX];rfl,rfl⟩,?_,cV.refl I,λx u=>iu β _ (λe=>u (by simp[e]))⟩;refine av.real (by simpa using hi) mB rfl λbc cG=>?_;rw[c3 d (by simp),avA,if_pos rfl]at cG;injection cG with cG
 subst cG;simp only[bb,gX];refine .inr ⟨w.heap.size,(bn x).cells,rfl,heap_alloc_new w _,?_,λo=>av.jG (Nat.le_refl _) o,.inl av.size⟩;have:=(awl bA cr).1;rw[ah]at this;exact vP (cV.refl I) (avY mB) _ _ this
structure lD(P:Program)(T:TypeId)(zs:List Value)(gm:List (Nat×Nat)):Prop where
 run:∀(parts:Array (Nat×Value)) (cells:jc) w,Instr.fill (λi=>gm[i]?) zs.toArray parts.toList=some cells→(Instr.build T parts).run P w=.ok (.agg cells) w
def og{P:Program}{T:TypeId}{jD:Array Field}{zs:dQ}{gm:List (Nat×Nat)}(hz:∀w,(zeroValue T).run P w=.ok (.agg zs.toArray) w)(hu:P.underlying T=some (.struct jD))
  (aF:∀w,(jD.mapM λf=>do pure (f.offset,←sizeOf f.type):Sem (Array (Nat×Nat))).run P w=.ok gm.toArray w):lD P T zs gm where
 run:=λparts cells w h=>by
  have b3:Instr.fill (gm.toArray[·]?) zs.toArray parts.toList=some cells:=by
   rw[←h];congr 1;funext i;simp
  unfold Instr.build;simp only[Sem.run_bind,hz,Result.andThen_ok,run_underlying hu,aF,Value.cells];simp only[b3];rfl
def jq{α:Type}(L:List α)(off:Nat)(cs:List α):List α:=L.take off++cs++L.drop (off+cs.length)
def y8(gm:List (Nat×Nat))(cells:List W):List (Nat×W)→Option (List W)
 |[]=>some cells
 |(i,a)::iT=>match gm[i]? with
  |none=>none
  |some (off,size)=>bif Nat.beq (qC a).length size&&Nat.ble (off+(qC a).length) cells.length&&a.flat then y8 gm (jq cells off (qC a)) iT else none
def Ri(cs:dQ):∀(k off:Nat) (L:jc),off+k+cs.length≤L.size→((cs.zipIdx k).foldl (λ(zz:jc) (x:Value×Nat)=>zz.setIfInBounds (off+x.2) x.1) L).toList=L.toList.take (off+k)++cs++L.toList.drop (off+k+cs.length):=by
 induction cs with
 |nil=>intro k off L h;simp
 |cons c r bu=>
  intro k off L h;simp only[zipIdx_cons,foldl_cons];have:=bu (k+1) off (L.setIfInBounds (off+k) c) (by simp at h ⊢;omega);rw[this];have e:=list_seg_step L.toList (off+k) c r (by simp at h ⊢;omega);simpa [Array.toList_setIfInBounds,Nat.add_assoc]using e
def tM{I:bG}{β:Nat→Value}:∀(xs bF:List W) (us vs:dQ),b8 I β xs us→b8 I β bF vs→b8 I β (xs++bF) (us++vs)
 |[],bF,us,vs,h,b3=>by simp only[b8]at h;subst h;simpa using b3
 |x::r,bF,us,vs,h,b3=>by
  simp only[b8]at h;obtain⟨aR,uC,rfl,h1,D⟩:=h;simp only[cons_append,b8];exact⟨aR,uC++vs,rfl,h1,tM r bF uC vs D b3⟩
def RA{I:bG}{β:Nat→Value}(gm:List (Nat×Nat)):∀(parts:List (Nat×W)) (gA:List (Nat×Value)) (cells:List W) (L:jc) (cw:List W),b8 I β cells L.toList→
  (parts.length=gA.length∧∀(j:Nat) (p:Nat×W) (q:Nat×Value),parts[j]?=some p→gA[j]?=some q→p.1=q.1∧aC I β p.2 q.2)→y8 gm cells parts=some cw→∃r,Instr.fill (λi=>gm[i]?) L gA=some r∧b8 I β cw r.toList
 |[],gA,cells,L,cw,h,aa,bA=>by
  have:gA=[]:=eq_nil_of_length_eq_zero aa.1.symm;subst this;simp only[y8,Option.some.injEq]at bA;subst bA;exact⟨L,rfl,h⟩
 |(i,a)::iT,gA,cells,L,cw,h,aa,bA=>by
  cases gA with
  |nil=>simp at aa
  |cons q vs=>
   obtain⟨yA,v⟩:=q;have bJ:=aa.2 0 _ _ rfl rfl;simp only at bJ;obtain⟨rfl,l9⟩:=bJ;simp only[y8]at bA;cases aF:gm[i]? with
   |none=>rw[aF]at bA;cases bA
   |some os=>
    obtain⟨off,size⟩:=os;rw[aF]at bA;simp only at bA;cases ah:(Nat.beq (qC a).length size&&Nat.ble (off+(qC a).length) cells.length&&a.flat)with
    |false=>rw[ah]at bA;simp at bA
    |true=>
     rw[ah]at bA;simp only[cond_true]at bA;simp only[Bool.and_eq_true,Nat.beq_eq,Nat.ble_eq]at ah;obtain⟨⟨bk,bK⟩,cq⟩:=ah;obtain⟨d1,d2⟩:=awl cq l9;have dl:=tL _ _ d1;have an6:=tL _ _ h;simp only[Array.length_toList]at dl an6;simp only[Instr.fill,aF];rw[if_neg (show ¬((decide (v.cells.size≠size)||decide (off+v.cells.size>L.size))=true)from by simp;omega)];refine RA gm iT vs _ _ cw ?_ ⟨by simpa using aa.1,λj p q aY bP=>aa.2 (j+1) p q (by simpa using aY) (by simpa using bP)⟩ bA;have e:=Ri v.cells.toList 0 off L (by simp;omega)
     have e2:(v.cells.zipIdx.foldl (λcs (x:Value×Nat)=>cs.setIfInBounds (off+x.2) x.1) L)=((v.cells.toList.zipIdx 0).foldl (λ(zz:jc) (x:Value×Nat)=>zz.setIfInBounds (off+x.2) x.1) L):=by
      rw[←Array.foldl_toList,Array.toList_zipIdx]
     rw[e2,e];simp only[Nat.add_zero,jq];refine tM _ _ _ _ (tM _ _ _ _ (C0 _ _ _ h) d1) ?_;have:=CZ (off+(qC a).length) _ _ h;have jE:v.cells.toList.length=(qC a).length:=by simpa using dl
     rw[jE];exact this
def b6.build{T:TypeId}{parts:Array (Nat×Operand)}{zs:dQ}{gm:List (Nat×Nat)}{cs:List W}(h:o.op=.build T parts)(aT:lD G.P T zs gm)
  (bA:y8 gm (s5 zs) (parts.toList.map λp=>(p.1,ev p.2))=some cs):Yields G o ev σ [] [] (.agg cs):=
 .pure λaH cx I β w bn c3 av hop=>by
  have h1:∀p∈parts.toList,aC I β (ev p.2) (bn p.2):=λp aF=>hop p.2 (by simp only[h,Op.operands];simpa using ⟨p.1,by simpa using aF⟩)
  obtain⟨r,D,aq⟩:=RA gm (parts.toList.map λp=>(p.1,ev p.2)) (parts.toList.map λp=>(p.1,bn p.2)) (s5 zs) zs.toArray cs (by simpa using Kj I β zs)
   ⟨by simp,λj p q aY bP=>by
    simp only[List.getElem?_map]at aY bP;cases u:parts.toList[j]? with
    |none=>rw[u]at aY;cases aY
    |some y=>
     rw[u]at aY bP;simp only[Option.map_some,Option.some.injEq]at aY bP;subst aY bP;exact⟨rfl,h1 y (List.mem_of_getElem? u)⟩⟩ bA
  refine⟨.agg r,?_,by simp only[aC];exact⟨r,rfl,aq⟩⟩;have:(Instr.build T (parts.map λ(i,x)=>(i,bn x))).run G.P w=.ok (.agg r) w:=aT.run _ r w (by simpa using D);simp[execOp,h,this]
structure nA(P:Program)(T E sz:Nat)(zs:List Value):Prop where
 gT:P.underlying T=some (.slice E)
 size:∀w,(sizeOf E).run P w=.ok sz w
 zero:∀w,∃z,(zeroValue E).run P w=.ok z w∧z.cells=zs.toArray
 avy:zs.length=sz
def Ay{sz:Nat}:∀(xs:List (List W)),(∀e∈xs,e.length=sz)→xs.flatten.length=xs.length*sz
 |[],_=>by simp
 |e::r,h=>by
  simp only[flatten_cons,length_append,length_cons,h e (by simp),Ay r (λx u=>h x (by simp[u]))];rw[Nat.add_mul];omega
def vS(sz:Nat):Nat→List (Nat×W)→Option (List (List W))
 |_,[]=>some []
 |k,(i,a)::r=>bif Nat.beq i k&&Nat.beq (qC a).length sz&&a.flat then(vS sz (k+1) r).map (qC a::·)else none
def F7{I:bG}{β:Nat→Value}(sz:Nat):∀(parts:List (Nat×W)) (gA:List (Nat×Value)) (k:Nat) (L:jc) (cw:List (List W)),
  (parts.length=gA.length∧∀(j:Nat) (p:Nat×W) (q:Nat×Value),parts[j]?=some p→gA[j]?=some q→p.1=q.1∧aC I β p.2 q.2)→vS sz k parts=some cw→(k+parts.length)*sz≤L.size→
  ∃r us,Instr.fill (λi=>some (i*sz,sz)) L gA=some r∧r.size=L.size∧r.toList=L.toList.take (k*sz)++us++L.toList.drop ((k+parts.length)*sz)∧b8 I β cw.flatten us∧(∀e∈cw,e.length=sz)∧cw.length=parts.length
 |[],gA,k,L,cw,aa,bA,_=>by
  have:gA=[]:=eq_nil_of_length_eq_zero aa.1.symm;subst this;simp only[vS,Option.some.injEq]at bA;subst bA;exact⟨L,[],rfl,rfl,by simp,by simp[b8],by simp,rfl⟩
 |(i,a)::iT,gA,k,L,cw,aa,bA,k2=>by
  cases gA with
  |nil=>simp at aa
  |cons q vs=>
   obtain⟨yA,v⟩:=q;have bJ:=aa.2 0 _ _ rfl rfl;simp only at bJ;obtain⟨rfl,l9⟩:=bJ;simp only[vS]at bA;cases ah:(Nat.beq i k&&Nat.beq (qC a).length sz&&a.flat)with
   |false=>rw[ah]at bA;simp at bA
   |true=>
    rw[ah]at bA;simp only[cond_true,Option.map_eq_some_iff]at bA;obtain⟨aor,bA,rfl⟩:=bA;simp only[Bool.and_eq_true,Nat.beq_eq]at ah;obtain⟨⟨rfl,bk⟩,cq⟩:=ah;obtain⟨d1,d2⟩:=awl cq l9;have dl:=tL _ _ d1;simp only[Array.length_toList]at dl;have zZ:i*sz+sz≤L.size:=by
     have:(i+1)*sz≤(i+((i,a)::iT).length)*sz:=Nat.mul_le_mul_right _ (by simp);rw[Nat.add_mul,Nat.one_mul]at this;omega
    have e:=Ri v.cells.toList 0 (i*sz) L (by simp;omega)
    have e2:(v.cells.zipIdx.foldl (λcs (x:Value×Nat)=>cs.setIfInBounds (i*sz+x.2) x.1) L)=((v.cells.toList.zipIdx 0).foldl (λ(zz:jc) (x:Value×Nat)=>zz.setIfInBounds (i*sz+x.2) x.1) L):=by
     rw[←Array.foldl_toList,Array.toList_zipIdx]
    simp only[Instr.fill];rw[if_neg (show ¬((decide (v.cells.size≠sz)||decide (i*sz+v.cells.size>L.size))=true)from by simp;omega)];rw[e2];generalize att:((v.cells.toList.zipIdx 0).foldl (λ(zz:jc) (x:Value×Nat)=>zz.setIfInBounds (i*sz+x.2) x.1) L)=L' at e;have XF:L'.size=L.size:=by
     rw[←Array.length_toList,e];simp;omega
    obtain⟨r,us,hw,ha,mJ,ql,xC,v8⟩:=F7 sz iT vs (i+1) L' aor ⟨by simpa using aa.1,λj p q aY bP=>aa.2 (j+1) p q (by simpa using aY) (by simpa using bP)⟩ bA (by rw[XF];simp at k2;rw[show i+1+iT.length=i+(iT.length+1)from by omega];exact k2);refine⟨r,v.cells.toList++us,hw,ha.trans XF,?_,?_,?_,by simp[v8]⟩
    ·rw[mJ,e];have NM:(i+1)*sz=i*sz+sz:=by rw[Nat.add_mul,Nat.one_mul]
     have q6:(L.toList.take (i*sz+0)).length=i*sz:=by simp;omega
     have ku:(L.toList.take (i*sz+0)++v.cells.toList).length=(i+1)*sz:=by rw[length_append,q6,NM];simp;omega
     rw[take_append_of_le_length (by rw[ku];exact Nat.le_refl _),←ku,take_length];have af:List.drop ((i+1+iT.length)*sz) (L.toList.take (i*sz+0)++v.cells.toList++L.toList.drop (i*sz+0+v.cells.toList.length))=L.toList.drop ((i+((i,a)::iT).length)*sz):=by
      rw[drop_append,ku,drop_drop];have:(i+1)*sz≤(i+1+iT.length)*sz:=Nat.mul_le_mul_right _ (by omega);rw[drop_of_length_le (by rw[ku];exact this),nil_append];congr 1;simp only[Array.length_toList,length_cons];rw[show i+(iT.length+1)=i+1+iT.length from by omega];omega
     rw[af];simp[List.append_assoc]
    ·simp only[flatten_cons];exact tM _ _ _ _ d1 ql
    ·intro e he;rcases mem_cons.1 he with rfl|he
     ·exact bk
     ·exact xC e he
def b6.buildSlice{T E sz len:Nat}{parts:Array (Nat×Operand)}{zs:dQ}{xs:List (List W)}(h:o.op=.buildSlice T len parts)(aT:nA G.P T E sz zs)(aJ:parts.size=len)(Z:len*sz≤65536∧len≤65536)
  (bA:vS sz 0 (parts.toList.map λp=>(p.1,ev p.2))=some xs) (ah:nm xs.flatten=true):Yields G o ev σ [] [] (.bf true xs):=by
 intro aH cx I β w bn c3 av hm hop;have h1:∀p∈parts.toList,aC I β (ev p.2) (bn p.2):=λp aF=>hop p.2 (by simp only[h,Op.operands];simpa using ⟨p.1,by simpa using aF⟩);obtain⟨z,ji,hN⟩:=aT.zero w
 let L:jc:=(Array.range (len*sz)).map ((if len*sz=0 then #[]else z.cells)[·%(if len*sz=0 then #[]else z.cells:jc).size]!)
 have uK:L.size=len*sz:=by simp[L]
 obtain⟨r,us,hw,ha,mJ,ql,xC,v8⟩:=F7 (I:=I) (β:=β) sz (parts.toList.map λp=>(p.1,ev p.2)) (parts.toList.map λp=>(p.1,bn p.2)) 0 L xs
  ⟨by simp,λj p q aY bP=>by
   simp only[List.getElem?_map]at aY bP;cases u:parts.toList[j]? with
   |none=>rw[u]at aY;cases aY
   |some y=>
    rw[u]at aY bP;simp only[Option.map_some,Option.some.injEq]at aY bP;subst aY bP;exact⟨rfl,h1 y (List.mem_of_getElem? u)⟩⟩ bA (by simp[uK,aJ])
 have yy:r.toList=us:=by
  rw[mJ];have l0:L.toList.drop ((0+(parts.toList.map λp=>(p.1,ev p.2)).length)*sz)=[]:=drop_of_length_le (by simp[uK,aJ]);rw[l0];simp
 have p5:xs.length=len:=by rw[v8];simp[aJ]
 have eV:(execOp bn o).run G.P w=.ok (.value (.slice (some ⟨w.heap.size,0,none⟩) len len)) (w.alloc (.cells r E)):=by
  have Ac:¬(len*sz>2 ^ 24):=by have:(2:Nat) ^ 24=16777216:=by decide
                               omega
  have oB:Instr.fill (λi=>some (i*sz,sz)) L (parts.map λ(i,x)=>(i,bn x)).toList=some r:=by simpa using hw
  simp only[execOp,h,Instr.buildSlice,Sem.run_bind,run_underlying aT.gT,aT.size,Result.andThen_ok,Ac,if_false];by_cases bJ:len*sz=0
  ·have sG:L=(Array.range (len*sz)).map ((#[]:jc)[·%(#[]:jc).size]!):=by simp only[L,bJ,if_true]
   rw[sG]at oB;simp only[bJ,if_true,Sem.run_bind,Sem.run_pure,Result.andThen_ok]at oB ⊢;simp only[oB];simp[newRow]
  ·have sG:L=(Array.range (len*sz)).map (z.cells[·%z.cells.size]!):=by simp only[L,bJ,if_false]
   rw[sG]at oB;simp only[bJ,if_false,Sem.run_bind,ji,Sem.run_pure,Result.andThen_ok];simp only[oB];simp[newRow]
 rw[eV];obtain⟨bq,hle,kr,fU⟩:=av.lay r E;refine⟨bq,β,?_,fU,hle,λ_ _=>rfl⟩;simp only[aC,bm];refine⟨_,len,by rw[p5],by omega,?_,λ_=>p5.symm,.inr ⟨w.heap.size,0,rfl,?_⟩⟩
 ·simp only[maxLen];omega
 ·have:=b8.closed _ _ ah ql;rw[←yy]at this;exact AK xs 0 _ (ni hle _ _ this) λj v aa=>by rw[Nat.zero_add];exact kr j v (by simpa using aa)
end ops
end
section
def ag.minus(ids:dI):ag→ag
 |[]=>[]
 |(d,o)::r=>bif ids.contains d then ag.minus ids r else(d,o)::ag.minus ids r
def avK(ids:dI):∀(σ:ag) (d:Nat),(ag.minus ids σ).get d=if d∈ids then none else σ.get d
 |[],d=>by simp[ag.minus,ag.get]
 |(k,o)::r,d=>by
  simp only[ag.minus];cases hk:ids.contains k with
  |true=>
   simp only[cond_true,avK ids r d,avA];split
   ·rfl
   ·rename_i af;rw[if_neg];intro e;subst e;simp at hk;exact af hk
  |false=>
   simp only[cond_false,avA,avK ids r d];split
   ·rename_i e;subst e;rw[if_neg (by simpa using hk)]
   ·rfl
def av3:∀(a b:ag) (d:Nat),ag.get (a++b) d=match a.get d with|some o=>some o|none=>b.get d
 |[],b,d=>by simp[ag.get]
 |(k,o)::r,b,d=>by
  simp only[cons_append,avA];split
  ·rfl
  ·exact av3 r b d
def awI:∀{σ:ag} {d:Nat},d∈σ.ids→(σ.get d).isSome
 |[],d,h=>by simp[ag.ids]at h
 |(k,o)::r,d,h=>by
  rw[avA];split
  ·rfl
  ·rename_i hk;simp only[ag.ids,map_cons,mem_cons]at h;rcases h with h|h
   ·exact absurd h.symm hk
   ·exact awI (σ:=r) h
def xo(β:Nat→Value)(σ:ag):dI:=σ.flatMap λp=>dA (β p.1)
def OQ{β:Nat→Value}{σ:ag}{b:Nat}:b∈xo β σ↔∃p∈σ,b∈dA (β p.1):=by simp[xo,List.mem_flatMap]
section after
variable {G:cR}{cx:fO}{I:bG}{β:Nat→Value}{σ:ag}{w:World}
def cz.placeOf(h:cz G cx I β σ w){x:Nat}{o:cE}(u:σ.get x=some o){b:Nat}(U:b∈dA (β x)):Place cx b:=(h.GS u U).2
def pL(I:bG)(β:Nat→Value)(dG:ag)(w:World):fO:={B:=w.heap.size,w0:=w,I0:=I,wE:=xo β dG,xY:=β}
def bb.place{cx rH:fO}{I:bG}{β:Nat→Value}{w:World}{d:Nat}{o:cE}(Xy:∀b∈dA (β d),Place cx b→Place rH b)(h:bb cx I β w d o):bb rH I β w d o:=by
 have aF:∀b,cb (β d)=some b→Place cx b→Place rH b:=λb U=>Xy b (kL U);cases o with
 |cL fh=>
  simp only[bb]at h ⊢;rcases h with q|⟨Z,ak,ax⟩
  ·exact .inl q
  ·exact .inr ⟨Z,ak,ax.go (cV.refl I) λaS ic=>⟨λ_=>rfl,λ_=>rfl,Xy aS (by rw[ak];exact ic)⟩⟩
 |hU T xs t=>
  simp only[bb]at h ⊢;rcases h with q|⟨aS,aV,arr,ak,ax,aO,aL,bg,bI,b7,cD,dz,dT,fG⟩
  ·exact .inl q
  ·exact .inr ⟨aS,aV,arr,ak,ax,aO,aL,bg,bI,b7,cD,dz,dT,aF aS (by rw[ak];rfl) fG⟩
 |vec T xs=>
  simp only[bb]at h ⊢;rcases h with q|⟨aS,arr,ak,ax,aO,aL,bg⟩
  ·exact .inl q
  ·exact .inr ⟨aS,arr,ak,ax,aO,aL,aF aS (by rw[ak];rfl) bg⟩
 |kE es clock bL seen=>
  simp only[bb]at h ⊢;rcases h with q|⟨r,gd,ak,ax,aO,aL,bg,bI,b7⟩
  ·exact .inl q
  ·exact .inr ⟨r,gd,ak,ax,aO,aL,bg,bI,aF r (by rw[ak];rfl) b7⟩
 |e9 T e n dk=>
  simp only[bb]at h ⊢;rcases h with q|⟨aS,aV,arr,Z,ak,ax,aO,aL,bg,bI,b7,cD,dz,dT⟩
  ·exact .inl q
  ·exact .inr ⟨aS,aV,arr,Z,ak,ax,aO,aL,bg,bI,b7,cD,dz,aF aS (by rw[ak];rfl) dT⟩
 |iF T sz xs lZ e dk=>
  simp only[bb]at h ⊢;rcases h with q|⟨aS,aV,arr,Z,vs,ak,ax,aO,aL,bg,bI,b7,cD,dz,dT⟩
  ·exact .inl q
  ·exact .inr ⟨aS,aV,arr,Z,vs,ak,ax,aO,aL,bg,bI,b7,cD,dz,aF aS (by rw[ak];rfl) dT⟩
 |fQ K E e keys dk js=>
  simp only[bb]at h ⊢;rcases h with q|⟨r,es,clock,Z,cN,ak,ax,aO,aL,bg,bI,b7,cD⟩
  ·exact .inl q
  ·exact .inr ⟨r,es,clock,Z,cN,ak,ax,aO,aL,bg,bI,aF r (by rw[ak];rfl) b7,cD⟩
 |cells T cs=>
  simp only[bb]at h ⊢;rcases h with q|⟨aS,arr,ak,ax,aO,aL,bg⟩
  ·exact .inl q
  ·exact .inr ⟨aS,arr,ak,ax,aO,aL,aF aS (by rw[ak];rfl) bg⟩
 |slice T sz xs k cT=>
  simp only[bb]at h ⊢;rcases h with q|q|⟨aS,aV,arr,ak,ax,aO,aL,bg,bI,b7,cD,dz,dT,fG⟩
  ·exact .inl q
  ·exact .inr (.inl q)
  ·exact .inr (.inr ⟨aS,aV,arr,ak,ax,aO,aL,bg,bI,b7,cD,dz,dT,aF aS (by rw[ak];rfl) fG⟩)
 |win T sz xs=>
  simp only[bb]at h ⊢;rcases h with q|q|⟨aS,hT,aV,arr,ak,ax,aO,aL,bg,bI,b7,cD,dz⟩
  ·exact .inl q
  ·exact .inr (.inl q)
  ·exact .inr (.inr ⟨aS,hT,aV,arr,ak,ax,aO,aL,bg,bI,b7,cD,aF aS (by rw[ak];rfl) dz⟩)
 |map K E bL=>
  simp only[bb]at h ⊢;rcases h with q|⟨r,es,clock,ak,ax,aO,aL,bg,bI⟩
  ·exact .inl q
  ·exact .inr ⟨r,es,clock,ak,ax,aO,aL,aF r (by rw[ak];rfl) bg,bI⟩
 |k3 K E bL=>
  simp only[bb]at h ⊢;rcases h with q|⟨r,es,clock,ak,ax,aO,bg,bI⟩
  ·exact .inl q
  ·exact .inr ⟨r,es,clock,ak,ax,aO,aF r (by rw[ak];rfl) bg,bI⟩
 |hM es clock K E bL=>
  simp only[bb]at h ⊢;rcases h with q|⟨r,ak,ax,aO,aL,bg,bI⟩
  ·exact .inl q
  ·exact .inr ⟨r,ak,ax,aO,aL,aF r (by rw[ak];rfl) bg,bI⟩
 |iter cW si kX seen=>
  simp only[bb]at h ⊢;rcases h with q|⟨r,gd,ak,ax,aO,aL,bg⟩
  ·exact .inl q
  ·exact .inr ⟨r,gd,ak,ax,aO,aL,aF r (by rw[ak];rfl) bg⟩
 |hdr cW n=>exact h
def cz.Bj(h:cz G cx I β σ w){P:Program}{dG:ag}(Z:∀p∈dG,σ.get p.1=some p.2):cz ⟨P,0,dG.ids⟩ (pL I β dG w) I β dG w:=by
  have ob:∀d o,dG.get d=some o→σ.get d=some o:=λd o af=>by
    obtain⟨p,de,ew,e1⟩:=u2 dG d o af;rw[←ew,←e1];exact Z p de
  have h1:=h.sub ob
  exact{good:=h1.good,iB:=h1.iB,kg:=cV.refl I,jX:=λ_ _ _ _=>rfl,frame:=λ_ _ _=>rfl,size:=Nat.le_refl _,tape:=rfl,os:=rfl,output:=rfl,drawn:=Nat.le_refl _,
        c4:=λd o af=>(h1.c4 d o af).place λb U _=>.inr (by
            obtain⟨p,de,ew,_⟩:=u2 dG d o af;exact OQ.2 ⟨p,de,by rw[ew];exact U⟩),
        ee:=h1.ee,keep:=λ_ _=>rfl}
def cz.after(h:cz G cx I β σ w){P:Program}{dG:ag}(Z:∀p∈dG,σ.get p.1=some p.2){bq:bG}{β':Nat→Value}{σ2:ag}{w':World}
    (b3:cz ⟨P,0,dG.ids⟩ (pL I β dG w) bq β' σ2 w') (news:dI) (aX:∀d∈news,d∉G.ids∧σ.get d=none) (iD:(σ.minus dG.ids).clean news.contains=true)
    (kI:σ2.clean (λd=>!(dG.ids++news).contains d)=true) :
    cz G cx bq (λd=>if d∈news then β' d else β d) (σ2++σ.minus dG.ids) w'∧cV I bq∧(∀(r:W) v,r.refs (λd=>!(dG.ids++news).contains d)=false→aC bq β' r v→aC bq (λd=>if d∈news then β' d else β d) r v):=by
  have ob:∀d o,dG.get d=some o→σ.get d=some o:=λd o af=>by
    obtain⟨p,de,ew,e1⟩:=u2 dG d o af;rw[←ew,←e1];exact Z p de
  have hle:cV I bq:=b3.kg
  have hm:∀d,(λd=>!(dG.ids++news).contains d) d=false→(λd=>if d∈news then β' d else β d) d=β' d:=λd af=>by
    have af:d∈dG.ids∨d∈news:=by
      have:(dG.ids++news).contains d=true:=by rw[←Bool.not_eq_false'];exact af
      exact List.mem_append.1 (List.contains_iff_mem.1 this)
    show(if d∈news then β' d else β d)=β' d;split
    · rfl
    · rename_i aX
      rcases af with af|af
      · exact(b3.keep d af).symm
      · exact absurd af aX
  have Ck:∀b,b∈xo β dG→Place cx b:=λb U=>by
    obtain⟨p,de,ew⟩:=OQ.1 U;exact h.placeOf (Z p de) ew
  have oW:∀b,Place (pL I β dG w) b→Place cx b:=λb U=>by
    rcases U with U|U
    · exact .inl (Nat.le_trans h.size U)
    · exact Ck b U
  have Xv:∀b,b<cx.B→b∉cx.wE→b<(pL I β dG w).B∧b∉(pL I β dG w).wE:=λb h1 D=>
    ⟨Nat.lt_of_lt_of_le h1 h.size,λU=>by
      rcases Ck b U with q|q
      · omega
      · exact D q⟩
  have iT:∀x o,(σ.minus dG.ids).get x=some o→x∉dG.ids∧σ.get x=some o:=λx o u=>by
    rw[avK]at u;split at u
    · cases u
    · exact⟨by assumption,u⟩
  have SJ:∀x o,(σ.minus dG.ids).get x=some o→∀b∈dA (β x),b<(pL I β dG w).B∧b∉(pL I β dG w).wE:=λx o u b U=>by
    obtain⟨h1,D⟩:=iT x o u;refine⟨h.uc D U,λrM=>?_⟩;obtain⟨p,de,ew⟩:=OQ.1 rM;have ano:p.1≠x:=λe=>h1 (by rw[←e];exact List.mem_map.2 ⟨p,de,rfl⟩);exact h.ee p.1 x (by rw[Z p de];rfl) (by rw[D];rfl) ano b ew U
  have KB:∀x o,(σ.minus dG.ids).get x=some o→(if x∈news then β' x else β x)=β x:=λx o u=>by
    have:x∉news:=λNW=>by
      have:=(aX x NW).2;rw[(iT x o u).2]at this;cases this
    rw[if_neg this]
  refine⟨{good:=b3.good,iB:=b3.iB,kg:=h.kg.trans hle,jX:=λb h1 D o=>?_,frame:=λb h1 D=>?_,size:=Nat.le_trans h.size b3.size,tape:=b3.tape.trans h.tape,os:=b3.os.trans h.os,output:=b3.output.trans h.output,drawn:=Nat.le_trans h.drawn b3.drawn,
          c4:=λx o u=>?_,ee:=λx y u ai cA b=>?_,keep:=λx u=>?_},hle,λr v aI aa=>xh hm r v aI aa⟩
  · obtain⟨aq,aZ⟩:=Xv b h1 D
    exact(b3.jX b aq aZ o).trans (h.jX b h1 D o)
  · obtain⟨aq,aZ⟩:=Xv b h1 D
    exact(b3.frame b aq aZ).trans (h.frame b h1 D)
  · rw[av3]at u
    cases D:σ2.get x with
    |some hT=>
      rw[D]at u;cases u;obtain⟨bk,bK⟩:=avI kI x o D;exact((b3.c4 x o D).place (λb _=>oW b)).beta hm bk bK
    |none=>
      rw[D]at u;simp only at u;obtain⟨hw,ha⟩:=iT x o u;obtain⟨bk,bK⟩:=avI iD x o u;have an:=h.c4 x o ha
      have sL:∀d,news.contains d=false→(λd=>if d∈news then β' d else β d) d=β d:=λd af=>by
        have:d∉news:=by simpa using af
        show(if d∈news then β' d else β d)=β d;rw[if_neg this]
      refine bb.beta sL bk bK ?_
      have Vq:∀b∈dA (β x),w'.heap[b]?=w.heap[b]?∧∀o,bq b o=I b o:=λb U=>by
        obtain⟨ak,ax⟩:=SJ x o u b U;exact⟨b3.frame b ak ax,λo=>b3.jX b ak ax o⟩
      have cG:∀b,cb (β x)=some b→w'.heap[b]?=w.heap[b]?∧∀o,bq b o=I b o:=λb U=>Vq b (kL U);cases o with
      |cL fh=>
        simp only[bb]at an ⊢;rcases an with q|⟨Z,ak,ax⟩
        · exact .inl q
        · refine .inr ⟨Z,ak,ax.go hle λaS ic=>?_⟩
          obtain⟨dV,eu⟩:=Vq aS (by rw[ak];exact ic);exact⟨λ_=>dV,eu,id⟩
      |hU T xs t=>
        simp only[bb]at an ⊢;rcases an with q|⟨aS,aV,arr,ak,ax,aO,aL,bg,bI,b7,cD,dz,dT,fG⟩
        · exact .inl q
        · obtain⟨dV,eu⟩:=cG aS (by rw[ak];rfl)
          exact .inr ⟨aS,aV,arr,ak,ax,aO,dV.trans aL,bg,ni hle _ _ bI,b7,cD,dz,λo=>(eu o).trans (dT o),fG⟩
      |vec T xs=>
        simp only[bb]at an ⊢;rcases an with q|⟨aS,arr,ak,ax,aO,aL,bg⟩
        · exact .inl q
        · obtain⟨dV,eu⟩:=cG aS (by rw[ak];rfl)
          exact .inr ⟨aS,arr,ak,dV.trans ax,aO,λo=>(eu o).trans (aL o),bg⟩
      |kE es clock bL seen=>
        simp only[bb]at an ⊢;rcases an with q|⟨r,gd,ak,ax,aO,aL,bg,bI,b7⟩
        · exact .inl q
        · obtain⟨dV,eu⟩:=cG r (by rw[ak];rfl)
          exact .inr ⟨r,gd,ak,dV.trans ax,hle _ _ _ aO,n1 hle _ _ aL,bg,λo=>(eu o).trans (bI o),b7⟩
      |e9 T e n dk=>
        simp only[bb]at an ⊢;rcases an with q|⟨aS,aV,arr,Z,ak,ax,aO,aL,bg,bI,b7,cD,dz,dT⟩
        · exact .inl q
        · obtain⟨dV,eu⟩:=cG aS (by rw[ak];rfl)
          exact .inr ⟨aS,aV,arr,Z,ak,ax,aO,dV.trans aL,bg,bI,b7,cD,λo=>(eu o).trans (dz o),dT⟩
      |iF T sz xs lZ e dk=>
        simp only[bb]at an ⊢;rcases an with q|⟨aS,aV,arr,Z,vs,ak,ax,aO,aL,bg,bI,b7,cD,dz,dT⟩
        · exact .inl q
        · obtain⟨dV,eu⟩:=cG aS (by rw[ak];rfl)
          exact .inr ⟨aS,aV,arr,Z,vs,ak,ax,aO,dV.trans aL,bg,bI,b7,⟨ni hle _ _ cD.1,cD.2⟩,λo=>(eu o).trans (dz o),dT⟩
      |fQ K E e keys dk js=>
        simp only[bb]at an ⊢;rcases an with q|⟨r,es,clock,Z,cN,ak,ax,aO,aL,bg,bI,b7,cD⟩
        · exact .inl q
        · obtain⟨dV,eu⟩:=cG r (by rw[ak];rfl)
          exact .inr ⟨r,es,clock,Z,cN,ak,dV.trans ax,aO,aL,bg.mono hle,λo=>(eu o).trans (bI o),b7,cD⟩
      |cells T cs=>
        simp only[bb]at an ⊢;rcases an with q|⟨aS,arr,ak,ax,aO,aL,bg⟩
        · exact .inl q
        · obtain⟨dV,eu⟩:=cG aS (by rw[ak];rfl)
          exact .inr ⟨aS,arr,ak,dV.trans ax,vP hle (h5.refl β) _ _ aO,λo=>(eu o).trans (aL o),bg⟩
      |slice T sz xs k cT=>
        simp only[bb]at an ⊢;rcases an with q|q|⟨aS,aV,arr,ak,ax,aO,aL,bg,bI,b7,cD,dz,dT,fG⟩
        · exact .inl q
        · exact .inr (.inl q)
        · obtain⟨dV,eu⟩:=cG aS (by rw[ak];rfl)
          exact .inr (.inr ⟨aS,aV,arr,ak,ax,aO,dV.trans aL,bg,ni hle _ _ bI,b7,cD,λhz o an=>(eu o).trans (dz hz o an),λo an=>(eu o).trans (dT o an),fG⟩)
      |win T sz xs=>
        simp only[bb]at an ⊢;rcases an with q|q|⟨aS,hT,aV,arr,ak,ax,aO,aL,bg,bI,b7,cD,dz⟩
        · exact .inl q
        · exact .inr (.inl q)
        · obtain⟨dV,eu⟩:=cG aS (by rw[ak];rfl)
          exact .inr (.inr ⟨aS,hT,aV,arr,ak,ax,aO,dV.trans aL,bg,Ax hle _ _ _ bI,b7,λhz o an=>(eu o).trans (cD hz o an),dz⟩)
      |map K E bL=>
        simp only[bb]at an ⊢;rcases an with q|⟨r,es,clock,ak,ax,aO,aL,bg⟩
        · exact .inl q
        · obtain⟨dV,eu⟩:=cG r (by rw[ak];rfl)
          exact .inr ⟨r,es,clock,ak,dV.trans ax,n1 hle _ _ aO,λo=>(eu o).trans (aL o),bg⟩
      |k3 K E bL=>
        simp only[bb]at an ⊢;rcases an with q|⟨r,es,clock,ak,ax,aO,aL,bg⟩
        · exact .inl q
        · exact .inr ⟨r,es,clock,ak,hle _ _ _ ax,n1 hle _ _ aO,aL,bg⟩
      |hM es clock K E bL=>
        simp only[bb]at an ⊢;rcases an with q|⟨r,ak,ax,aO,aL,bg⟩
        · exact .inl q
        · obtain⟨dV,eu⟩:=cG r (by rw[ak];rfl)
          exact .inr ⟨r,ak,dV.trans ax,n1 hle _ _ aO,λo=>(eu o).trans (aL o),bg⟩
      |iter cW si kX seen=>
        simp only[bb]at an ⊢;rcases an with q|⟨r,gd,ak,ax,aO,aL,bg⟩
        · exact .inl q
        · obtain⟨dV,eu⟩:=cG r (by rw[ak];rfl)
          exact .inr ⟨r,gd,ak,ax,dV.trans aO,λo=>(eu o).trans (aL o),bg⟩
      |hdr cW n=>exact an
  ·
    have Ig:∀x,(σ2.get x).isSome→(if x∈news then β' x else β x)=β' x:=λx u=>by
      obtain⟨o,u⟩:=Option.isSome_iff_exists.1 u;exact hm x (avI kI x o u).1
    have A2:∀x,(ag.get (σ2++σ.minus dG.ids) x).isSome→(σ2.get x).isSome∨∃o,(σ.minus dG.ids).get x=some o:=λx u=>by
      rw[av3]at u;cases D:σ2.get x with
      |some o=>exact .inl rfl
      |none=>rw[D]at u;exact .inr (Option.isSome_iff_exists.1 u)
    have mixed:∀x y,(σ2.get x).isSome→(∃o,(σ.minus dG.ids).get y=some o)→b∈dA (β' x)→b∈dA (β y)→False:=λx y u ⟨o,ai⟩ aK e2=>by
      obtain⟨auH,u⟩:=Option.isSome_iff_exists.1 u;obtain⟨ak,ax⟩:=SJ y o ai b e2;rcases b3.placeOf u aK with q|q
      · exact absurd q (by omega)
      · exact ax q
    show b∈dA (if x∈news then β' x else β x)→b∉dA (if y∈news then β' y else β y);rcases A2 x u with h1|⟨iR,h1⟩<;>rcases A2 y ai with D|⟨gP,D⟩
    · rw[Ig x h1,Ig y D]
      exact b3.ee x y h1 D cA b
    · rw[Ig x h1,KB y gP D]
      exact λaK e2=>mixed x y h1 ⟨gP,D⟩ aK e2
    · rw[KB x iR h1,Ig y D]
      exact λaK e2=>mixed y x D ⟨iR,h1⟩ e2 aK
    · rw[KB x iR h1,KB y gP D]
      exact h.ee x y (by rw[(iT x iR h1).2];rfl) (by rw[(iT y gP D).2];rfl) cA b
  · have:x∉news:=λNW=>(aX x NW).1 u
    simp only[this,if_false];exact h.keep x u
end after
section ops
variable {G:cR}{o:Oper}{ev:Operand→W}{σ:ag}
def AS{I:bG}{β:Nat→Value}(ev:Operand→W)(bn:Operand→Value):∀(xs:List Operand),(∀x∈xs,aC I β (ev x) (bn x))→b8 I β (xs.map ev) (xs.map bn)
 |[],_=>by simp[b8]
 |x::r,h=>by
  simp only[map_cons,b8];exact⟨bn x,r.map bn,rfl,h x (by simp),AS ev bn r λy ai=>h y (by simp[ai])⟩
def Gq{P:Program}{o:Oper}{hS:Operand}{args:Array Operand}{k:Array TypeId}{bn:Operand→Value}{f:FuncId}{vs:jc}{w:World}(h:o.op=.call ⟨.value hS,args,k⟩)(bA:bn hS=.func (.func f) #[] vs)
  (q9:∀(args:jc) (w:World),(callFunc f args).run P w=.ok (.enter f args) w):(execOp bn o).run P w=.ok (.enter f ((args.toList.map bn++vs.toList).toArray)) w:=by
 simp[execOp,h,resolve,bA,Deferred.ofValue,invoke,q9]
def b6.call{hS:Operand}{args:Array Operand}{k:Array TypeId}{f:FuncId}{aV dX:List W}{σs dG:ag}{r:W}(h:o.op=.call ⟨.value hS,args,k⟩)(bA:ev hS=.fn f aV)
  (q9:∀(args:jc) (w:World),(callFunc f args).run G.P w=.ok (.enter f args) w) (Z:∀p∈σs,σ.get p.1=some p.2) (aA:mP σs (args.toList.map ev++aV) dX) (ah:∀p∈dG,σs.get p.1=some p.2)
  (ch:dR G.P f dG dX r) (aI:r.closed=true) (uO:dG.clean (λd=>!(dG.ids++[]).contains d)=true):Yields G o ev σ [] σs.ids r:=by
 intro aH cx I β w bn c3 av _ hop;have lB:=hop hS (by simp[h,Op.operands,Call.operands]);rw[bA]at lB;simp only[aC]at lB;obtain⟨vs,lB,p1⟩:=lB;rw[Gq h lB q9]
 have ob:∀d o,σs.get d=some o→aH.get d=some o:=λd o af=>by
  obtain⟨p,de,ew,e1⟩:=u2 σs d o af;rw[c3 d (by rw[←ew];exact List.mem_map.2 ⟨p,de,rfl⟩),←ew,←e1];exact Z p de
 have Ak:=av.sub ob;have n5:=tM _ _ _ _ (AS ev bn args.toList λx u=>hop x (by simp only[h,Op.operands,Call.operands];simp;right;simpa using u)) p1;have xz:=aA.rep Ak _ n5;have NS:∀p∈dG,aH.get p.1=some p.2:=λp aF=>ob _ _ (ah p aF);have fM:=av.Bj (P:=G.P) NS;refine Calls.mono (ch _ w I β _ fM xz) ?_;rintro e w' ⟨v,he,r',σ2,bq,β',⟨sV,j5⟩,l9,fU⟩;subst sV j5;obtain⟨h1,D,aq⟩:=av.after NS fU [] (by simp) (awe _) uO;refine⟨v,he,bq,β,?_,?_,D,λ_ _=>rfl⟩
 ·exact bm.rep β _ _ (aC.closed r' v aI l9)
 ·refine({h1 with}:cz G cx bq β (σ2++aH.minus σ2.ids) w').sub λd o af=>?_;rw[av3,avK];cases D:σ2.get d with
  |some hT=>
   obtain⟨p,de,ew,e1⟩:=u2 σ2 d hT D;have:=NS p de;rw[ew,e1,af]at this;simpa using this.symm
  |none=>
   have:d∉σ2.ids:=λhm=>by have:=awI hm;rw[D]at this;cases this
   simp[this,af]
def dD.call{hS:Operand}{args:Array Operand}{k:Array TypeId}{f:FuncId}{aV dX:List W}{dG:ag}{iA:W→ag→Prop}(news:dI)(h:o.op=.call ⟨.value hS,args,k⟩)(bA:ev hS=.fn f aV)
  (q9:∀(args:jc) (w:World),(callFunc f args).run G.P w=.ok (.enter f args) w) (Z:∀p∈dG,σ.get p.1=some p.2) (aA:mP σ (args.toList.map ev++aV) dX)
  (ch:eT G.P f dG dX iA) (aX:news.all (λd=>!G.ids.contains d&&(σ.get d).isNone)=true) (iD:(σ.minus dG.ids).clean news.contains=true)
  (kI:∀r σ2,iA r σ2→r.refs (λd=>!(dG.ids++news).contains d)=false∧σ2.clean (λd=>!(dG.ids++news).contains d)=true) :
  i2 G o ev σ (dG.ids++news) news (λr aH=>∃σ2,iA r σ2∧aH=σ2++σ.minus dG.ids):=by
 intro cx I β w bn av hop;have lB:=hop hS (by simp[h,Op.operands,Call.operands]);rw[bA]at lB;simp only[aC]at lB;obtain⟨vs,lB,p1⟩:=lB;rw[Gq h lB q9];have n5:=tM _ _ _ _ (AS ev bn args.toList λx u=>hop x (by simp only[h,Op.operands,Call.operands];simp;right;simpa using u)) p1;have xz:=aA.rep av _ n5;have fM:=av.Bj (P:=G.P) Z
 have Cs:∀d∈news,d∉G.ids∧σ.get d=none:=λd af=>by
  have:=List.all_eq_true.1 aX d af;simpa using this
 refine Calls.mono (ch _ w I β _ fM xz) ?_;rintro e w' ⟨v,he,r,σ2,bq,β',aF,l9,fU⟩;obtain⟨gy,cn⟩:=kI r σ2 aF;obtain⟨h1,D,aq⟩:=av.after Z fU news Cs iD cn;refine⟨v,he,r,_,bq,_,⟨σ2,aF,rfl⟩,aq r v gy l9,h1,D,λd af=>by simp[af],λd af=>?_⟩;have af:d∉dG.ids∧d∉news:=by simpa using af
 rw[av3,avK,if_neg af.1];cases D:σ2.get d with
 |some hT=>
  have:=(avI cn d hT D).1;have:(dG.ids++news).contains d=true:=by rw[←Bool.not_eq_false'];exact this
  exact absurd (List.mem_append.1 (List.contains_iff_mem.1 this)) (by simp[af.1,af.2])
 |none=>rfl
def Fs{P:Program}{w:World}{b off:Nat}{be:TypeId}{arr:jc}(U:w.heap[b]?=some (.cells arr be (0,0)))(vs:dQ)(aJ:off+vs.length≤arr.size)(h1:∀v∈vs,v.oneCell'=true):
  (storeCells ⟨b,off,none⟩ vs).run P w=.ok () (w.setRow b (jq arr.toList off vs).toArray):=by
 have:=run_storeCells_at P b off be vs 0 arr w U (by simpa using aJ) h1;simpa [jq]using this
def ZY{I:bG}{β:Nat→Value}{cs dB:List W}{vs us:dQ}(off:Nat)(h:b8 I β cs vs)(b3:b8 I β dB us):b8 I β (jq cs off dB) (jq vs off us):=by
 unfold jq;rw[tL _ _ b3];exact tM _ _ _ _ (tM _ _ _ _ (C0 _ _ _ h) b3) (CZ _ _ _ h)
def ag.set(d:Nat)(o:cE):ag→ag
 |[]=>[]
 |(k,x)::r=>bif Nat.beq k d then(k,o)::r else(k,x)::ag.set d o r
def avE(d:Nat)(o:cE):∀(σ:ag) (x:Nat),(ag.set d o σ).get x=if x=d then(σ.get d).map λ_=>o else σ.get x
 |[],x=>by simp[ag.set,ag.get]
 |(k,y)::r,x=>by
  simp only[ag.set];by_cases hk:k=d
  ·subst hk;simp only[Nat.beq_refl,cond_true,avA];by_cases u:k=x
   ·subst u;simp
   ·simp[u,Ne.symm u]
  ·have:Nat.beq k d=false:=by rw[←Bool.not_eq_true,Nat.beq_eq];exact hk
   simp only[this,cond_false,avA,avE d o r x];by_cases u:k=x
   ·subst u;simp[hk]
   ·simp[u,hk]
def ayc{T be d p n:Nat}{x y:Operand}{a:W}{cs:List W}(h:o.op=.store T x y)(u:ev x=.ptr d p)(ai:ev y=a)(af:σ.get d=some (.cells be cs))(aT:∀w,(sizeOf T).run G.P w=.ok n w)
  (bA:a.flat=true) (aX:(qC a).length=n) (aJ:p+n≤cs.length) :
  i2 G o ev σ [d] [] (λr aH=>r=.undef∧aH=σ.set d (.cells be (jq cs p (qC a)))):=by
 intro cx I β w bn av hop;have h1:=hop x (by simp[h,Op.operands]);rw[u]at h1
 have D:=hop y (by simp[h,Op.operands]);rw[ai]at D
 simp only[aC]at h1;obtain⟨b,h1,aq⟩:=h1;obtain⟨arr,ak,ax,aO,aL,bg⟩:=av.box af h1;obtain⟨f1,f2⟩:=awl bA D;have q6:=tL _ _ aO;have ku:=tL _ _ f1;simp only[Array.length_toList]at q6 ku;have oa:=Fs (P:=G.P) ax (bn y).cells.toList (off:=p) (by simp;omega) f2;have eV:(execOp bn o).run G.P w=.ok .skip (w.setRow b (jq arr.toList p (bn y).cells.toList).toArray):=by
  have aK:¬((bn y).cells.size≠n):=by omega
  simp[execOp,h,aq,Instr.storeAt,Instr.sureAddr,storeVar,aT,aK,oa]
 rw[eV];refine⟨.undef,_,I,β,⟨rfl,rfl⟩,by simp[aC,bm],?_,cV.refl I,λ_ _=>rfl,λx u=>by rw[avE,if_neg (by simpa using u)]⟩;have ga:cb (β d)=some b:=h1
 refine av.turn (d:=d) (g1.setRow w b _) bg (λx u=>by rw[avE,if_neg u]) (λx u Z e=>av.ee x d Z (by rw[af];rfl) u b e (kL ga)) (cV.refl I) (λ_ _ _=>rfl)
  (λo v aa=>by rw[aL o]at aa;cases aa) (aL none) (λ_ _=>rfl) (.inr rfl) (h5.refl β) (.inl ga) λbc cG=>?_
 rw[avE,if_pos rfl,af]at cG;injection cG with cG
 subst cG;simp only[bb];exact .inr ⟨b,_,ak,setRow_heap w b arr _ be _ ax,by simpa using ZY p aO f1,aL,bg⟩
end ops
end
section
structure kO(P:Program)(T E sz bytes:Nat):Prop where
 gT:P.underlying T=some (.slice E)
 info:∃i z,P.info? E=some i∧i.zero=some z∧i.size=sz∧i.bytes=bytes∧z.cells.size=sz
 pos:0<sz
def CM{I:bG}{b:Nat}{w:World}(bw:∀b (o:Nat) v,I b o=some v→w.cell? ⟨b,o,none⟩=some v):∀(xs:List (List W)) (o:Nat),kf I b xs o→
  ∃vs:dQ,ds I xs.flatten vs∧∀j v,vs[j]?=some v→w.cell? ⟨b,o+j,none⟩=some v
 |[],o,_=>⟨[],rfl,λj v h=>by simp at h⟩
 |e::r,o,h=>by
  simp only[kf]at h;obtain⟨vs,h1,D⟩:=OZ bw e o h.1;obtain⟨us,aq,aZ⟩:=CM bw r (o+e.length) h.2;have aJ:=qW _ _ h1;refine⟨vs++us,by simp only[flatten_cons];exact(oL _ _ _).2 ⟨vs,us,rfl,h1,aq⟩,λj v aa=>?_⟩;rcases Nat.lt_or_ge j vs.length with aY|aY
  ·rw[List.getElem?_append_left aY]at aa;exact D j v aa
  ·rw[List.getElem?_append_right aY]at aa;have:=aZ (j-vs.length) v aa
   rwa [aJ,show o+e.length+(j-e.length)=o+j from by omega]at this
def Rj{I:bG}:∀(cs:List W) (vs:dQ),cs.all W.one=true→ds I cs vs→∀v∈vs,v.oneCell'=true:=λcs vs ah h=>
 PR (β:=λ_=>undef) cs vs ah (ds.rep _ cs vs h)
section ops
variable {G:cR}{o:Oper}{ev:Operand→W}{σ:ag}
def pt{P:Program}{o:Oper}{s x:Operand}{t:Nat}{bn:Operand→Value}{w w':World}{dM:Value}(h:o.op=.call ⟨.builtin .append,#[s,x],#[t,t]⟩)(aI:(Builtin.append_ #[t,t] o.type #[bn s,bn x]).run P w=.ok dM w'):
  (execOp bn o).run P w=.ok (.value dM) w':=by
 simp[execOp,h,resolve,invoke,builtin,aI]
def ZZ{α:Type}(L news:List α)(n j:Nat)(aY:j<n)(aX:n≤L.length):(L.take n++news++L.drop (n+news.length))[j]?=L[j]?:=by
 rw[List.append_assoc,List.getElem?_append_left (by rw[length_take];omega),getElem?_take,if_pos aY]
def dD.append{s x:Operand}{T E sz bytes d d2 be k:Nat}{f cT:Bool}{xs bF:List (List W)}(h:o.op=.call ⟨.builtin .append,#[s,x],#[T,T]⟩)(Z:ev s=.own d)(af:σ.get d=some (.slice be sz xs k cT))(u:jJ σ (ev x) (.bf f bF))(aT:kO G.P T E sz bytes)(iG:be=E)
  (vO:∀e∈bF,e.length=sz) (h1:bF.flatten.all W.one=true) (U:(xs.length+bF.length)*bytes≤140737488355328) (qY:xs.length+bF.length≤maxLen) (hi:G.ids.contains d2=false)
  (ah:(σ.minus [d]).clean [d2].contains=true) :
  i2 G o ev σ [d,d2] [d2] (λr aH=>r=.own d2∧aH=(d2,.slice be sz (xs++bF) k false)::σ.minus [d]):=by
 subst iG;intro cx I β w bn av hop;have fc:=hop s (by simp[h,Op.operands,Call.operands]);rw[Z]at fc;simp only[aC]at fc;obtain⟨fc,eg⟩:=fc;have cr:=u.rep av _ (hop x (by simp[h,Op.operands,Call.operands]));simp only[aC,bm]at cr;obtain⟨a,c,cr,eW,lC,_,o2⟩:=cr;obtain⟨i,z,hB,ji,hN,nv,tT⟩:=aT.info;have sU:∃news:dQ,ds I bF.flatten news∧(bF.length=0∨∃ad:Addr,a=some ad∧∀j aR,news[j]?=some aR→w.cell? (ad.add j)=some aR):=by
  rcases o2 with rfl|⟨b,o,rfl,aI⟩
  ·exact⟨[],rfl,.inl rfl⟩
  ·obtain⟨vs,ak,ax⟩:=CM av.good bF o aI;exact⟨vs,ak,.inr ⟨_,rfl,λj aR hu=>by rw[mx];exact ax j aR hu⟩⟩
 obtain⟨news,q2,nM⟩:=sU;have l4:news.length=bF.length*sz:=by rw[qW _ _ q2];exact Ay bF vO
 have nr:=Rj _ _ h1 q2;have nN:xs.length+bF.length≤9223372036854775807:=by simp only[maxLen]at qY;omega
 have qB:cz G cx I β (σ.minus [d]) w:=av.sub λx bc u=>by rw[avK]at u;split at u<;>first|cases u|exact u
 have rP:=qB.qJ (eM:=[d2]) (σ2:=(d2,.slice be sz (xs++bF) k false)::σ.minus [d]) (env:=[]) ⟨λx u=>by rw[avA,if_neg (λe=>u (by simp[e]))],λx u=>by simp at u;subst u;simpa using hi,rfl,ah,λx u cW n h=>by simp at u;subst u;rw[avA,if_pos rfl]at h;cases h⟩;have h8:∀x,x≠d2→gY β [d2] x=β x:=λx u=>by simp[gY,u]
 have fin:∀(dM:Value) (w':World) (b:Nat),(execOp bn o).run G.P w=.ok (.value dM) w'→i1 dM=true→g1 w w' b→Place cx b→(∀x,((σ.minus [d]).get x).isSome→b∉dA (β x))→
   (∀(o:Nat) v,I b o=some v→w'.cell? ⟨b,o,none⟩=some v)→I b none=none→(cb dM=some b∨dA dM=[])→bb cx I (hy β d2 dM) w' d2 (.slice be sz (xs++bF) k false)→
   pN G.P (λv w'=>∃(b9:W) (aH:ag) (bq:bG) (β':Nat→Value),(b9=.own d2∧aH=(d2,cE.slice be sz (xs++bF) k false)::σ.minus [d])∧aC bq β' b9 v∧cz G cx bq β' aH w'∧cV I bq∧(∀x,x∉[d2]→β' x=β x)∧(∀x,x∉[d,d2]→aH.get x=σ.get x)) ((execOp bn o).run G.P w):=by
  intro dM w' b eV jh hk aF rN A6 Ag ga cG;rw[eV];refine⟨.own d2,_,I,hy β d2 dM,⟨rfl,rfl⟩,by simp only[aC,gX,jh,and_self],?_,cV.refl I,λx u=>iu β dM (by simpa using u),λx u=>?_⟩
  ·refine rP.turn (d:=d2) hk aF (λ_ _=>rfl) (λx u nN e=>?_) (cV.refl I) (λ_ _ _=>rfl) A6 Ag (λx u=>by rw[iu β dM u,h8 x u]) (.inl (by simpa using hi)) (λx=>?_) (by rw[gX];exact ga) (λbc mD=>?_)
   ·rw[avA,if_neg (Ne.symm u)]at nN;rw[h8 x u]at e;exact rN x nN e
   ·by_cases u:x=d2
    ·left;simp[gY,u]
    ·right;rw[iu β dM u,h8 x u]
   ·rw[avA,if_pos rfl]at mD;injection mD with mD
    subst mD;exact cG
  ·have u:x≠d∧x≠d2:=by simpa using u
   rw[avA,if_neg (Ne.symm u.2),avK,if_neg (by simpa using u.1)]
 have r3:∀b,cb (β d)=some b→∀x,((σ.minus [d]).get x).isSome→b∉dA (β x):=λb ga x u e=>by
  rw[avK]at u;split at u
  ·cases u
  ·rename_i pK;exact av.ee x d u (by rw[af];rfl) (by simpa using pK) b e (kL ga)
 have fresh:∀x,((σ.minus [d]).get x).isSome→w.heap.size∉dA (β x):=λx u e=>by
  obtain⟨bc,u⟩:=Option.isSome_iff_exists.1 u;exact absurd (qB.uc u e) (by omega)
 have x9:I w.heap.size none=none:=av.jG (Nat.le_refl _) none;have y0:∀(w':World) (o:Nat) v,I w.heap.size o=some v→w'.cell? ⟨w.heap.size,o,none⟩=some v:=λw' o v aa=>by rw[av.jG (Nat.le_refl _)]at aa;cases aa
 have ud:∀nD,nD<xs.length+bF.length→xs.length+bF.length≤grownCap w (xs.length+bF.length) nD be∧grownCap w (xs.length+bF.length) nD be≤maxLen:=λnD _=>⟨grownCap_ge _ _ _ _,grownCap_le_maxLen _ _ _ _ qY⟩
 have vV:∀(iJ:dQ) (aV:Nat),ds I xs.flatten iJ→iJ.length=xs.length*sz→(∀e∈xs,e.length=sz)→k≤xs.length→xs.length+bF.length≤aV→aV≤maxLen→
   bb cx I (hy β d2 (.slice (some ⟨w.heap.size,0,none⟩) (xs.length+bF.length) aV)) (w.drew.alloc (.cells (iJ.toArray++news.toArray++Builtin.zeroCells z.cells (aV-(xs.length+bF.length))) be)) d2 (.slice be sz (xs++bF) k false):=by
  intro iJ aV oV l5 Fb atN qv sN;simp only[bb,gX];have eH:(iJ++news).length=(xs++bF).length*sz:=by rw[length_append,length_append,l5,l4,Nat.add_mul]
  refine .inr (.inr ⟨w.heap.size,aV,_,by rw[length_append],by rw[length_append];exact qv,sN,heap_alloc_new w.drew _,?_,?_,?_,by rw[length_append];omega,by simp,λo _=>av.jG (Nat.le_refl _) o,.inl av.size⟩)
  ·simp only[Array.size_append,size_toArray,size_zeroCells,tT,l5,l4,←Nat.add_mul];congr 1;omega
  ·have:(iJ.toArray++news.toArray++Builtin.zeroCells z.cells (aV-(xs.length+bF.length))).toList.take ((xs++bF).length*sz)=iJ++news:=by
    simp only[Array.toList_append,List.append_assoc];rw[←List.append_assoc,←eH];exact take_left
   rw[this,List.flatten_append];exact(oL _ _ _).2 ⟨_,_,rfl,oV,q2⟩
  ·intro e he;rcases List.mem_append.1 he with he|he
   ·exact Fb e he
   ·exact vO e he
 have ue:∀bc,g1 w (w.drew.alloc bc) w.heap.size:=λbc=>(g1.alloc w.drew bc).drew;have an:=av.c4 d _ af;simp only[bb]at an;rcases an with q|⟨q,rfl,rfl⟩|⟨b,aV,arr,ak,ax,aO,aL,bg,bI,b7,cD,dz,dT,fG⟩
 ·rw[q]at fc;rw[fc]at eg;simp[i1]at eg
 ·
  rcases Nat.eq_zero_or_pos bF.length with hm|hm
  ·have ai:bF=[]:=eq_nil_of_length_eq_zero hm;subst ai;refine fin (.slice none 0 0) w w.heap.size (pt h ?_) rfl ⟨λ_ _ _=>rfl,Nat.le_refl _,rfl,rfl,rfl,Nat.le_refl _⟩ (.inl av.size) fresh (y0 w) x9 (.inr rfl) ?_
   ·rw[fc,cr,q];cases a<;>simp[Builtin.append_,run_underlying aT.gT,Go.sizeOf,typeInfo,hB,Builtin.lenOf,Builtin.firstCells,loadCells,loadCellsFrom]
   ·simp only[bb,gX];exact .inr (.inl ⟨trivial,rfl,trivial⟩)
  ·obtain⟨ad,rfl,kr⟩:=nM.resolve_left (by omega);have aI:=run_append_nil (P:=G.P) w T o.type be i z aT.gT hB ji ad bF.length c news (by rw[hN];exact l4) kr hm (by simp at nN;omega) (by simp at U;rw[nv];omega);obtain⟨dc,dg⟩:=ud 0 (by simp;exact hm);simp only[length_nil,Nat.zero_add]at dc dg;refine fin _ _ w.heap.size (pt h (by rw[fc,cr,q];exact aI)) rfl (ue _) (.inl av.size) fresh (y0 _) x9 (.inl rfl) ?_;have:=vV [] (grownCap w bF.length 0 be) rfl (by simp) (by simp) (Nat.le_refl _) (by simpa using dc) dg;simpa using this
 ·have ga:cb (β d)=some b:=by rw[ak];rfl
  have bS:=hQ aL;have uM:arr.toList.length=aV*sz:=by simpa using bg
  have p5:xs.length*sz≤arr.toList.length:=by rw[uM];exact Nat.mul_le_mul_right _ ax
  have Xp:∀(o:Nat) v,I b o=some v→o<xs.length*sz:=λo v aa=>by
   rcases Nat.lt_or_ge o (k*sz)with hk|hk
   ·exact Nat.lt_of_lt_of_le hk (Nat.mul_le_mul_right _ cD)
   ·rw[dT o hk]at aa;cases aa
  by_cases oA:xs.length+bF.length≤aV
  ·
   have eH:(arr.toList.take (xs.length*sz)++news).length=(xs++bF).length*sz:=by rw[length_append,length_take,Nat.min_eq_left p5,length_append,l4,Nat.add_mul]
   have By:∀(w':World) (pO:jc),w'.heap[b]?=some (.cells pO be (0,0))→pO.toList=arr.toList.take (xs.length*sz)++news++arr.toList.drop (xs.length*sz+news.length)→
     bb cx I (hy β d2 (.slice (some ⟨b,0,none⟩) (xs.length+bF.length) aV)) w' d2 (.slice be sz (xs++bF) k false):=by
    intro w' pO b0 he;simp only[bb,gX];refine .inr (.inr ⟨b,aV,pO,by rw[length_append],by rw[length_append];exact oA,aO,b0,?_,?_,?_,by rw[length_append];omega,by simp,dT,fG⟩)
    ·have atV:xs.length*sz+news.length≤arr.toList.length:=by rw[l4,←Nat.add_mul,uM];exact Nat.mul_le_mul_right _ oA
     have amg:pO.size=pO.toList.length:=by simp
     rw[amg,he,←uM];simp only[length_append,length_take,length_drop];omega
    ·rw[he,←eH,take_left,List.flatten_append];exact(oL _ _ _).2 ⟨_,_,rfl,bI,q2⟩
    ·intro e he;rcases List.mem_append.1 he with he|he
     ·exact b7 e he
     ·exact vO e he
   rcases Nat.eq_zero_or_pos bF.length with hm|hm
   ·have ai:bF=[]:=eq_nil_of_length_eq_zero hm;subst ai;have NN:news=[]:=eq_nil_of_length_eq_zero (by simpa using l4);subst NN;refine fin (.slice (some ⟨b,0,none⟩) xs.length aV) w b (pt h ?_) rfl ⟨λ_ _ _=>rfl,Nat.le_refl _,rfl,rfl,rfl,Nat.le_refl _⟩ fG (r3 b ga) (λo v aa=>av.good b o v aa) (av.tK aL) (.inl rfl) ?_
    ·rw[fc,cr,ak];cases a<;>simp[Builtin.append_,run_underlying aT.gT,Go.sizeOf,typeInfo,hB,Builtin.lenOf,Builtin.firstCells,loadCells,loadCellsFrom,ax,storeCells]
    ·have:=By w arr aL (by simp);simpa using this
   ·obtain⟨ad,rfl,kr⟩:=nM.resolve_left (by omega);have zZ:xs.length*i.size+news.length≤arr.size:=by rw[hN,l4,bg,←Nat.add_mul];exact Nat.mul_le_mul_right _ oA
    have aI:=run_append_room (P:=G.P) w T o.type be i aT.gT hB b xs.length aV arr aL ad bF.length c news (by rw[hN];exact l4) kr nr oA zZ;rw[hN]at aI;refine fin _ _ b (pt h (by rw[fc,cr,ak];exact aI)) rfl (g1.setRow w b _) fG (r3 b ga) (λo v aa=>?_) (av.tK aL) (.inl rfl) (By _ _ (setRow_heap w b arr _ be _ aL) rfl);have bw:=av.good b o v aa;simp only[World.cell?,aL]at bw;simp only[World.cell?,setRow_heap w b arr _ be _ aL];have bw:arr.toList[o]?=some v:=by simpa using bw
    have:=ZZ arr.toList news (xs.length*sz) o (Xp o v aa) p5;rw[bw]at this;simpa using this
  ·
   have hm:0<bF.length:=by omega
   obtain⟨ad,rfl,kr⟩:=nM.resolve_left (by omega);have qz:(arr.toList.take (xs.length*sz)).length=xs.length*sz:=by rw[length_take,Nat.min_eq_left p5]
   have holds:∀j v,(arr.toList.take (xs.length*sz))[j]?=some v→w.cell? ((⟨b,0,none⟩:Addr).add j)=some v:=λj v aa=>by
    rw[mx];rw[getElem?_take]at aa;split at aa
    ·simp only[World.cell?,aL,Nat.zero_add];simpa using aa
    ·cases aa
   have aI:=run_append_grow (P:=G.P) w T o.type be i z aT.gT hB ji ⟨b,0,none⟩ xs.length aV _ (by rw[hN];exact qz) holds ad bF.length c news (by rw[hN];exact l4) kr (by omega) (by omega) (growslice_fits (by omega) (by rw[nv];exact U));obtain⟨dc,dg⟩:=ud aV (by omega);exact fin _ _ w.heap.size (pt h (by rw[fc,cr,ak];exact aI)) rfl (ue _) (.inl av.size) fresh (y0 _) x9 (.inl rfl) (vV _ _ bI qz b7 cD dc dg)
def awv{s x:Operand}{T E sz bytes d2:Nat}{f:Bool}{xs bF:List (List W)}(h:o.op=.call ⟨.builtin .append,#[s,x],#[T,T]⟩)(Z:(ev s=.c6∧xs=[])∨(ev s=.bf true xs∧0<bF.length))(u:jJ σ (ev x) (.bf f bF))(aT:kO G.P T E sz bytes)
  (An:∀e∈xs,e.length=sz) (vO:∀e∈bF,e.length=sz) (h1:bF.flatten.all W.one=true) (U:(xs.length+bF.length)*bytes≤140737488355328) (qY:xs.length+bF.length≤maxLen) (hi:G.ids.contains d2=false)
  (ah:σ.clean [d2].contains=true) :
  i2 G o ev σ [d2] [d2] (λr aH=>r=.own d2∧aH=(d2,.slice E sz (xs++bF) 0 false)::σ):=by
 intro cx I β w bn av hop;have fc:=hop s (by simp[h,Op.operands,Call.operands]);have cr:=u.rep av _ (hop x (by simp[h,Op.operands,Call.operands]));simp only[aC,bm]at cr;obtain⟨a,c,cr,eW,lC,_,o2⟩:=cr;obtain⟨i,z,hB,ji,hN,nv,tT⟩:=aT.info;have sU:∃news:dQ,ds I bF.flatten news∧(bF.length=0∨∃ad:Addr,a=some ad∧∀j aR,news[j]?=some aR→w.cell? (ad.add j)=some aR):=by
  rcases o2 with rfl|⟨b,o,rfl,aI⟩
  ·exact⟨[],rfl,.inl rfl⟩
  ·obtain⟨vs,ak,ax⟩:=CM av.good bF o aI;exact⟨vs,ak,.inr ⟨_,rfl,λj aR hu=>by rw[mx];exact ax j aR hu⟩⟩
 obtain⟨news,q2,nM⟩:=sU;have l4:news.length=bF.length*sz:=by rw[qW _ _ q2];exact Ay bF vO
 have nN:xs.length+bF.length≤9223372036854775807:=by simp only[maxLen]at qY;omega
 have rP:=av.qJ (eM:=[d2]) (σ2:=(d2,.slice E sz (xs++bF) 0 false)::σ) (env:=[]) ⟨λx u=>by rw[avA,if_neg (λe=>u (by simp[e]))],λx u=>by simp at u;subst u;simpa using hi,rfl,ah,λx u cW n h=>by simp at u;subst u;rw[avA,if_pos rfl]at h;cases h⟩;have h8:∀x,x≠d2→gY β [d2] x=β x:=λx u=>by simp[gY,u]
 have fresh:∀x,(σ.get x).isSome→w.heap.size∉dA (β x):=λx u e=>by
  obtain⟨bc,u⟩:=Option.isSome_iff_exists.1 u;exact absurd (av.uc u e) (by omega)
 have x9:I w.heap.size none=none:=av.jG (Nat.le_refl _) none;have y0:∀(w':World) (o:Nat) v,I w.heap.size o=some v→w'.cell? ⟨w.heap.size,o,none⟩=some v:=λw' o v aa=>by rw[av.jG (Nat.le_refl _)]at aa;cases aa
 have fin:∀(dM:Value) (w':World),(execOp bn o).run G.P w=.ok (.value dM) w'→i1 dM=true→g1 w w' w.heap.size→(cb dM=some w.heap.size∨dA dM=[])→bb cx I (hy β d2 dM) w' d2 (.slice E sz (xs++bF) 0 false)→
   pN G.P (λv w'=>∃(b9:W) (aH:ag) (bq:bG) (β':Nat→Value),(b9=.own d2∧aH=(d2,cE.slice E sz (xs++bF) 0 false)::σ)∧aC bq β' b9 v∧cz G cx bq β' aH w'∧cV I bq∧(∀x,x∉[d2]→β' x=β x)∧(∀x,x∉[d2]→aH.get x=σ.get x)) ((execOp bn o).run G.P w):=by
  intro dM w' eV jh hk ga cG;rw[eV];refine⟨.own d2,_,I,hy β d2 dM,⟨rfl,rfl⟩,by simp only[aC,gX,jh,and_self],?_,cV.refl I,λx u=>iu β dM (by simpa using u),λx u=>?_⟩
  ·refine rP.turn (d:=d2) hk (.inl av.size) (λ_ _=>rfl) (λx u nN e=>?_) (cV.refl I) (λ_ _ _=>rfl) (y0 w') x9 (λx u=>by rw[iu β dM u,h8 x u]) (.inl (by simpa using hi)) (λx=>?_) (by rw[gX];exact ga) (λbc mD=>?_)
   ·rw[avA,if_neg (Ne.symm u)]at nN;rw[h8 x u]at e;exact fresh x nN e
   ·by_cases u:x=d2
    ·left;simp[gY,u]
    ·right;rw[iu β dM u,h8 x u]
   ·rw[avA,if_pos rfl]at mD;injection mD with mD
    subst mD;exact cG
  ·have u:x≠d2:=by simpa using u
   rw[avA,if_neg (Ne.symm u)]
 have ud:∀nD,nD<xs.length+bF.length→xs.length+bF.length≤grownCap w (xs.length+bF.length) nD E∧grownCap w (xs.length+bF.length) nD E≤maxLen:=λnD _=>⟨grownCap_ge _ _ _ _,grownCap_le_maxLen _ _ _ _ qY⟩
 have vV:∀(iJ:dQ) (aV:Nat),ds I xs.flatten iJ→iJ.length=xs.length*sz→xs.length+bF.length≤aV→aV≤maxLen→
   bb cx I (hy β d2 (.slice (some ⟨w.heap.size,0,none⟩) (xs.length+bF.length) aV)) (w.drew.alloc (.cells (iJ.toArray++news.toArray++Builtin.zeroCells z.cells (aV-(xs.length+bF.length))) E)) d2 (.slice E sz (xs++bF) 0 false):=by
  intro iJ aV oV l5 qv sN;simp only[bb,gX];have eH:(iJ++news).length=(xs++bF).length*sz:=by rw[length_append,length_append,l5,l4,Nat.add_mul]
  refine .inr (.inr ⟨w.heap.size,aV,_,by rw[length_append],by rw[length_append];exact qv,sN,heap_alloc_new w.drew _,?_,?_,?_,by omega,by simp,λo _=>av.jG (Nat.le_refl _) o,.inl av.size⟩)
  ·simp only[Array.size_append,size_toArray,size_zeroCells,tT,l5,l4,←Nat.add_mul];congr 1;omega
  ·have:(iJ.toArray++news.toArray++Builtin.zeroCells z.cells (aV-(xs.length+bF.length))).toList.take ((xs++bF).length*sz)=iJ++news:=by
    simp only[Array.toList_append,List.append_assoc];rw[←List.append_assoc,←eH];exact take_left
   rw[this,List.flatten_append];exact(oL _ _ _).2 ⟨_,_,rfl,oV,q2⟩
  ·intro e he;rcases List.mem_append.1 he with he|he
   ·exact An e he
   ·exact vO e he
 have ue:∀bc,g1 w (w.drew.alloc bc) w.heap.size:=λbc=>(g1.alloc w.drew bc).drew;rcases Z with⟨Z,rfl⟩|⟨Z,hm⟩
 ·rw[Z]at fc;simp only[aC,bm]at fc;rcases Nat.eq_zero_or_pos bF.length with hm|hm
  ·have ai:bF=[]:=eq_nil_of_length_eq_zero hm;subst ai;refine fin (.slice none 0 0) w (pt h ?_) rfl ⟨λ_ _ _=>rfl,Nat.le_refl _,rfl,rfl,rfl,Nat.le_refl _⟩ (.inr rfl) ?_
   ·rw[fc,cr];cases a<;>simp[Builtin.append_,run_underlying aT.gT,Go.sizeOf,typeInfo,hB,Builtin.lenOf,Builtin.firstCells,loadCells,loadCellsFrom]
   ·simp only[bb,gX];exact .inr (.inl ⟨trivial,rfl,trivial⟩)
  ·obtain⟨ad,rfl,kr⟩:=nM.resolve_left (by omega);have aI:=run_append_nil (P:=G.P) w T o.type E i z aT.gT hB ji ad bF.length c news (by rw[hN];exact l4) kr hm (by simp at nN;omega) (by simp at U;rw[nv];omega);obtain⟨dc,dg⟩:=ud 0 (by simp;exact hm);simp only[length_nil,Nat.zero_add]at dc dg;refine fin _ _ (pt h (by rw[fc,cr];exact aI)) rfl (ue _) (.inl rfl) ?_;have:=vV [] (grownCap w bF.length 0 E) rfl (by simp) (by simpa using dc) dg;simpa using this
 ·rw[Z]at fc;simp only[aC,bm]at fc;obtain⟨a0,kX,fc,_,_,p1,i4⟩:=fc;have p1:=p1 trivial;subst p1;obtain⟨ad,rfl,kr⟩:=nM.resolve_left (by omega);rcases i4 with rfl|⟨b,p,rfl,i4⟩
  ·
   obtain⟨dc,dg⟩:=ud 0 (by simp;exact hm);simp only[length_nil,Nat.zero_add]at dc dg;cases a0 with
   |none=>
    have aI:=run_append_nil (P:=G.P) w T o.type E i z aT.gT hB ji ad bF.length c news (by rw[hN];exact l4) kr hm (by simp at nN;omega) (by simp at U;rw[nv];omega);refine fin _ _ (pt h (by rw[fc,cr];exact aI)) rfl (ue _) (.inl rfl) ?_;have:=vV [] (grownCap w bF.length 0 E) rfl (by simp) (by simpa using dc) dg;simpa using this
   |some iM=>
    have aI:=run_append_grow (P:=G.P) w T o.type E i z aT.gT hB ji iM 0 0 [] (by simp) (by simp) ad bF.length c news (by rw[hN];exact l4) kr (by omega) (by simp at nN;omega) (growslice_fits (by omega) (by rw[nv];simpa using U));simp only[Nat.zero_add]at aI;refine fin _ _ (pt h (by rw[fc,cr];exact aI)) rfl (ue _) (.inl rfl) ?_;have:=vV [] (grownCap w bF.length 0 E) rfl (by simp) (by simpa using dc) dg;simpa using this
  ·obtain⟨iJ,iR,gP⟩:=CM av.good xs p i4;have qz:iJ.length=xs.length*sz:=by rw[qW _ _ iR];exact Ay xs An
   have aI:=run_append_grow (P:=G.P) w T o.type E i z aT.gT hB ji ⟨b,p,none⟩ xs.length xs.length iJ (by rw[hN];exact qz) (λj v aa=>by rw[mx];exact gP j v aa) ad bF.length c news (by rw[hN];exact l4) kr (by omega) (by omega) (growslice_fits (by omega) (by rw[nv];exact U));obtain⟨dc,dg⟩:=ud xs.length (by omega);exact fin _ _ (pt h (by rw[fc,cr];exact aI)) rfl (ue _) (.inl rfl) (vV _ _ iR qz dc dg)
def b6.makeFunc{f:FuncId}{aV:Array Operand}(h:o.op=.makeFunc (.func f) #[] aV):Yields G o ev σ [] [] (.fn f (aV.toList.map ev)):=
 .pure λaH cx I β w bn c3 av hop=>by
  refine⟨.func (.func f) #[] (aV.map bn),by simp[execOp,h,Instr.makeFunc],?_⟩;simp only[aC];exact⟨_,rfl,by simpa using AS ev bn aV.toList λx u=>hop x (by simp only[h,Op.operands];simpa using u)⟩
structure hl(P:Program)(T f off n:Nat)(dW:Bool):Prop where
 run:∀(cs:jc) w,off+n≤cs.size→(Instr.field T (.agg cs) f).run P w=.ok (if dW then .agg (cs.extract off (off+n))else cs.getD off undef) w
 pos:dW=false→n=1
def b6.field{T f off n:Nat}{dW:Bool}{x:Operand}{cs:List W}(h:o.op=.field T x f)(u:ev x=.agg cs)(aT:hl G.P T f off n dW)(aX:Nat.ble (off+n) cs.length=true):Yields G o ev σ [] [] (qi dW n (cs.drop off)):=
 .pure λaH cx I β w bn c3 av hop=>by
  have h1:=hop x (by simp[h,Op.operands]);rw[u]at h1
  simp only[aC]at h1;obtain⟨vs,h1,D⟩:=h1;have aJ:=tL _ _ D;simp only[Array.length_toList]at aJ;have aX:off+n≤cs.length:=by simpa using aX
  have af:=CZ off _ _ D;refine⟨_,by simp only[execOp,h,h1,Sem.run_bind,aT.run vs w (by omega),Result.andThen_ok,Sem.run_pure];rfl,?_⟩;cases dW with
  |true=>
   simp only[qi,cond_true,if_true,aC];refine⟨_,rfl,?_⟩;have:=C0 n _ _ af;simpa [Array.toList_extract,extract_eq_take_drop]using this
  |false=>
   simp only[qi,cond_false,Bool.false_eq_true,if_false];have aF:=aT.pos rfl;have bS:off<vs.size:=by omega
   have e:vs.toList.drop off=vs[off]::vs.toList.drop (off+1):=by rw[drop_eq_getElem_cons (by simpa using bS)];simp
   rw[e]at af;rw[Array.getD_eq_getD_getElem?,Array.getElem?_eq_getElem bS];generalize cs.drop off=dB at af;cases dB with
   |nil=>simp[aC]
   |cons y r=>
    simp only[b8]at af;obtain⟨aR,us,e,af,_⟩:=af;cases e;exact af
def JD{I:bG}{b sz:Nat}:∀(l:Nat) (xs:List (List W)) (o:Nat),(∀e∈xs,e.length=sz)→kf I b xs o→kf I b (xs.drop l) (o+l*sz)
 |0,xs,o,_,h=>by simpa using h
 |l+1,[],o,_,_=>by simp[kf]
 |l+1,e::r,o,aJ,h=>by
  simp only[kf]at h;have he:=aJ e (by simp);have:=JD l r (o+e.length) (λx u=>aJ x (by simp[u])) h.2;rw[he]at this;rw[Nat.add_mul,Nat.one_mul];simpa [Nat.add_assoc,Nat.add_comm sz]using this
def OR{I:bG}{b:Nat}:∀(h:Nat) (xs:List (List W)) (o:Nat),kf I b xs o→kf I b (xs.take h) o
 |0,_,_,_=>by simp[kf]
 |h+1,[],_,_=>by simp[kf]
 |h+1,e::r,o,b0=>by
  simp only[kf,take_succ_cons]at b0 ⊢;exact⟨b0.1,OR h r _ b0.2⟩
def run_sliceBound{P:Program}{k:IntKind}{n:Int}{y:Nat}{code:BoundsCode}{w:World}(h:0≤n∧n≤(y:Int)):(Instr.sliceBound (.int k n) y code).run P w=.ok n.toNat w:=by
 unfold Instr.sliceBound;simp only[asIntOf,Sem.run_bind,Sem.run_pure,Result.andThen_ok];rw[if_pos h];rfl
def nQ(ev:Operand→W):Option Operand→Int|none=>0|some x=>match ev x with|.int _ n=>n|_=>-1
def uv(ev:Operand→W)(len:Nat):Option Operand→Int|none=>len|some x=>match ev x with|.int _ n=>n|_=>-1
def A7{I:bG}{β:Nat→Value}{bn:Operand→Value}{x:Operand}(h:∃k n,ev x=.int k n)(u:aC I β (ev x) (bn x)):∃k n,ev x=.int k n∧bn x=.int k n:=by
 obtain⟨k,n,h⟩:=h;rw[h]at u;exact⟨k,n,h,kY u⟩
def yY(ev:Operand→W):Option Operand→Prop|none=>True|some x=>∃k n,ev x=.int k n
def b6.slice{T E sz:Nat}{x:Operand}{f:Bool}{lo hi:Option Operand}{xs:List (List W)}(h:o.op=.slice T x lo hi none)(u:jJ σ (ev x) (.bf f xs))(aT:lT G.P T E sz)(eH:∀e∈xs,e.length=sz)(CD:yY ev lo)(N3:yY ev hi)
  (hf:0≤nQ ev lo∧nQ ev lo≤uv ev xs.length hi∧uv ev xs.length hi≤xs.length) (R:dI) (c3:∀aH:ag,(∀d∈R,aH.get d=σ.get d)→jJ aH (ev x) (.bf f xs)) :
  Yields G o ev σ [] R (.bf false ((xs.take (uv ev xs.length hi).toNat).drop (nQ ev lo).toNat)):=
 .pure λaH cx I β w bn Ni av hop=>by
  have h1:=(c3 aH Ni).rep av _ (hop x (by simp[h,Op.operands]));simp only[aC,bm]at h1;obtain⟨a,c,h1,D,aq,_,aZ⟩:=h1;generalize aJ:nQ ev lo=l at hf ⊢;generalize b0:uv ev xs.length hi=aR at hf ⊢;have aK:(Instr.sliceBounds true xs.length c (lo.map bn) (hi.map bn) none).run G.P w=.ok (l.toNat,aR.toNat,c) w:=by
   have hu:0≤aR∧aR≤(c:Int):=by omega
   have IC:0≤l∧l≤(aR.toNat:Int):=by omega
   cases hi with
   |none=>
    simp only[uv]at b0;subst b0;cases lo with
    |none=>
     simp only[nQ]at aJ;subst aJ;simp[Instr.sliceBounds]
    |some y=>
     obtain⟨k,n,ak,ax⟩:=A7 CD (hop y (by simp[h,Op.operands]));simp only[nQ,ak]at aJ;subst aJ;have:=run_sliceBound (P:=G.P) (k:=k) (code:=.sliceB) (w:=w) IC;simp only[Int.toNat_natCast]at this;simp[Instr.sliceBounds,ax,this]
   |some z=>
    obtain⟨Oc,nz,nF,pS⟩:=A7 N3 (hop z (by simp[h,Op.operands]));simp only[uv,nF]at b0;subst b0;have hw:=run_sliceBound (P:=G.P) (k:=Oc) (code:=.sliceAcap) (w:=w) hu;cases lo with
    |none=>
     simp only[nQ]at aJ;subst aJ;simp[Instr.sliceBounds,pS,hw]
    |some y=>
     obtain⟨k,n,ak,ax⟩:=A7 CD (hop y (by simp[h,Op.operands]));simp only[nQ,ak]at aJ;subst aJ;have:=run_sliceBound (P:=G.P) (k:=k) (code:=.sliceB) (w:=w) IC;simp[Instr.sliceBounds,pS,hw,ax,this]
  have eV:(execOp bn o).run G.P w=.ok (.value (.slice (if c=l.toNat then a else a.map (·.add (l.toNat*sz))) (aR.toNat-l.toNat) (c-l.toNat))) w:=by
   have e2:∀w,(underlying T).run G.P w=.ok (.slice E) w:=λw=>run_underlying aT.gT w;simp only[execOp,h,Instr.sliceAt,Instr.slice,h1,Sem.run_bind,e2,Result.andThen_ok,aK,aT.size,Sem.run_pure,Option.map_none]
  refine⟨_,eV,?_⟩;simp only[aC,bm];have yp:((xs.take aR.toNat).drop l.toNat).length=aR.toNat-l.toNat:=by rw[length_drop,length_take];omega
  refine⟨_,c-l.toNat,by rw[yp],by rw[yp];omega,by omega,by simp,?_⟩;by_cases he:(xs.take aR.toNat).drop l.toNat=[]
  ·exact .inl he
  ·right;have bS:l.toNat<aR.toNat:=by
    rcases Nat.lt_or_ge l.toNat aR.toNat with q|q
    ·exact q
    ·exact absurd (eq_nil_of_length_eq_zero (by rw[yp];omega)) he
   rcases aZ with rfl|⟨b,p,rfl,aZ⟩
   ·simp at he
   ·refine⟨b,p+l.toNat*sz,?_,JD _ _ _ (λe b0=>eH e (mem_of_mem_take b0)) (OR _ _ _ aZ)⟩;rw[if_neg (by omega)];simp[mx]
end ops
end
end Go.Proofs.YtmnbolcmepihlaaGreat
