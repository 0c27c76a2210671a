/- Several texts in one. No condition but those that stand in each. -/
import Derived.Orders
import Derived.Tactics
import Derived.Laws.World
import Derived.Below
import Derived.KernelRfl
import Derived.Laws.Small
import Derived.Laws.StructEq
import Derived.Laws.OwnMore
import Derived.Maps.AppendAt
namespace Go.Proofs.YtmnbolcmepihlaaGreat
set_option linter.all false
open Go List
section
abbrev cq:=List Int
abbrev dg:=List Nat
abbrev dZ:=List Value
abbrev iT:=Array MapEntry
abbrev iY:=Array Value
abbrev jd:=List (List Bool)
abbrev jo:=Option Int
abbrev ku:=Option Nat
abbrev lz:=Option Bool
abbrev l7:=Array Oper
abbrev nq:=List (List Int)
abbrev nM:=List MapEntry
abbrev oA:=Array Nat
abbrev qb:=Option (List Int)
abbrev qS:=List Bool
abbrev su:=List (List Nat)
abbrev tr:=Array Bool
abbrev bs:=Nat→ku→Option Value
def cn(I aU:bs):Prop:=∀b o v,I b o=some v→aU b o=some v
def cn.refl(I:bs):cn I I:=λ_ _ _ h=>h
variable {I:bs}
def cn.trans{J K:bs}(h:cn I J)(b3:cn J K):cn I K:=λ_ _ _ x=>b3 _ _ _ (h _ _ _ x)
inductive ot where
 |Kz (f:Nat)
 |AH (n:Nat)
 |row (i:Nat)
 |qp (i off:Nat)
 deriving DecidableEq
inductive Q where
 |e9
 |undef
 |int (k:IntKind) (n:Int)
 |bool (b:Bool)
 |str (s:ByteArray)
 |bf (full:Bool) (xs:List (List Q))
 |fO (cs:List Q)
 |agg (cs:List Q)
 |cI (vs:List Q)
 |fn (f:Nat) (aO:List Q)
 |c4
 |nI
 |own (d:Nat)
 |ptr (d off:Nat)
 |dr (d:Nat)
 |eU (f:Nat) (aO:List Q)
 |ko
 |fR (k:ot) (d:Nat)
 |dw (bH:List (Q×Q))
 |arr (xs:cq)
 deriving Inhabited
def pU(es:iT)(clock:Nat):Value:=.tuple #[.int .i64 (clock:Int),.tuple (es.map λe=>.tuple #[e.key,e.val,.int .i64 (e.born:Int)])]
def EL{es hO:iT}{c pE:Nat}(h:pU es c=pU hO pE):es=hO∧c=pE:=by
 simp only[pU,Value.tuple.injEq,Array.mk.injEq,List.cons.injEq,Value.int.injEq,true_and,and_true,Int.ofNat_inj]at h;refine⟨?_,h.1⟩;refine Array.map_inj_right (λx y m0=>?_)|>.1 h.2;simp only[Value.tuple.injEq,Array.mk.injEq,List.cons.injEq,Value.int.injEq,true_and,and_true,Int.ofNat_inj]at m0;obtain⟨k,v,b⟩:=x;obtain⟨dS,dF,aP⟩:=y
 simp only at m0;obtain⟨rfl,rfl,rfl⟩:=m0;rfl
def jZ(es:iT)(clock:Nat):Prop:=(es.toList.map (·.born)).Nodup∧∀x∈es.toList,x.born<clock
mutual
def bc(I:bs):Q→Value→Prop
 |.e9,_=>True
 |.undef,v=>v=Go.undef
 |.int k n,v=>v=.int k n
 |.bool b,v=>v=.bool b
 |.str s,v=>v=.string s
 |.bf full xs,v=>∃a c,v=.slice a xs.length c∧xs.length≤c∧c≤maxLen∧(full=true→c=xs.length)∧
   (xs=[]∨∃b o,a=some ⟨b,o,none⟩∧jC I b xs o)
 |.fO cs,v=>∃b o,v=.pointer (some ⟨b,o,none⟩)∧k4 I b cs o
 |.agg cs,v=>∃vs,v=.agg vs∧cV I cs vs.toList
 |.cI cs,v=>∃vs,v=.tuple vs∧cV I cs vs.toList
 |.fn f aO,v=>∃vs,v=.func (.func f) #[] vs∧cV I aO vs.toList
 |.c4,v=>v=.slice none 0 0
 |.nI,v=>v=.pointer none
 |.own _,_=>False
 |.ptr _ _,_=>False
 |.dr _,_=>False
 |.eU f aO,v=>∃vs,v=.func (.func f) #[] vs∧cV I aO vs.toList
 |.ko,v=>∃a c,v=.slice (some a) 0 c∧c≤maxLen
 |.fR _ _,_=>False
 |.arr xs,v=>v=.agg (xs.map (Value.int .i64)).toArray
 |.dw bH,v=>∃r es clock,v=.map (some r)∧I r none=some (pU es clock)∧gq I bH es.toList∧jZ es clock
def gq(I:bs):List (Q×Q)→nM→Prop
 |[],es=>es=[]
 |(k,v)::r,es=>∃e bI,es=e::bI∧bc I k e.key∧bc I v e.val∧gq I r bI
def cV(I:bs):List Q→dZ→Prop
 |[],vs=>vs=[]
 |x::r,vs=>∃aA bI,vs=aA::bI∧bc I x aA∧cV I r bI
def k4(I:bs)(b:Nat):List Q→Nat→Prop
 |[],_=>True
 |x::r,o=>(∃aA,I b o=some aA∧bc I x aA)∧k4 I b r (o+1)
def jC(I:bs)(b:Nat):List (List Q)→Nat→Prop
 |[],_=>True
 |e::r,o=>k4 I b e o∧jC I b r (o+e.length)
end
def iD:Value→Bool|.slice ..=>true|_=>false
def mJ:Value→Bool|.map ..=>true|_=>false
def b1:Value→ku
 |.pointer (some a)=>some a.block
 |.slice (some a) _ _=>some a.block
 |.map (some r)=>some r
 |_=>none
def c2:Value→dg
 |.tuple vs=>vs.toList.filterMap b1
 |v=>(b1 v).toList
variable {b:Nat}
def j8{v:Value}(h:b1 v=some b):b∈c2 v:=by
 cases v<;>first|(simp[b1]at h;done)|(simp only[c2,h];simp)
def ES{v:Value}{aP:Nat}(h:b1 v=some b)(b3:aP∈c2 v):aP=b:=by
 cases v<;>first|(simp[b1]at h;done)|(simp only[c2,h]at b3;simpa using b3)
def MY:c2 .nilFunc=[]:=rfl
def IK:c2 (.slice none 0 0)=[]:=rfl
def ot.rep:ot→Value→Value→Prop
 |.Kz f,h,v=>∃b,b1 h=some b∧v=.func (.func f) #[.pointer (some ⟨b,0,none⟩)] #[]
 |.AH n,h,v=>∃b,b1 h=some b∧v=.slice (some ⟨b,0,none⟩) n n
 |.row i,h,v=>∃X:iY,h=.tuple X∧X.toList[i]?=some v
 |.qp i off,h,v=>∃(X:iY) (aA:Value) (b:Nat),h=.tuple X∧X.toList[i]?=some aA∧b1 aA=some b∧v=.pointer (some ⟨b,off,none⟩)
def auK{k:ot}{v:Value}(h:k.rep .nilFunc v):False:=by
 cases k with
 |Kz f=>obtain⟨b,h,_⟩:=h;cases h
 |AH n=>obtain⟨b,h,_⟩:=h;cases h
 |row i=>obtain⟨X,h,_⟩:=h;cases h
 |qp i off=>obtain⟨X,aA,b,h,_⟩:=h;cases h
mutual
def au(I:bs)(β:Nat→Value):Q→Value→Prop
 |.agg cs,v=>∃vs,v=.agg vs∧bW I β cs vs.toList
 |.cI cs,v=>∃vs,v=.tuple vs∧bW I β cs vs.toList
 |.fn f aO,v=>∃vs,v=.func (.func f) #[] vs∧bW I β aO vs.toList
 |.own d,v=>v=β d∧iD v=true
 |.ptr d off,v=>∃b,b1 (β d)=some b∧v=.pointer (some ⟨b,off,none⟩)
 |.dr d,v=>v=β d∧mJ v=true
 |.e9,_=>True
 |.undef,v=>bc I .undef v
 |.int k n,v=>bc I (.int k n) v
 |.bool b,v=>bc I (.bool b) v
 |.str s,v=>bc I (.str s) v
 |.bf f xs,v=>bc I (.bf f xs) v
 |.fO cs,v=>bc I (.fO cs) v
 |.c4,v=>bc I .c4 v
 |.nI,v=>bc I .nI v
 |.eU f aO,v=>bc I (.eU f aO) v
 |.ko,v=>bc I .ko v
 |.fR k d,v=>k.rep (β d) v
 |.dw bH,v=>bc I (.dw bH) v
 |.arr xs,v=>bc I (.arr xs) v
def bW(I:bs)(β:Nat→Value):List Q→dZ→Prop
 |[],vs=>vs=[]
 |x::r,vs=>∃aA bI,vs=aA::bI∧au I β x aA∧bW I β r bI
end
mutual
def jV{I aU:bs}(h:cn I aU):∀(x:Q) (v:Value),bc I x v→bc aU x v
 |.e9,_,_=>trivial
 |.undef,_,r=>r
 |.int _ _,_,r=>r
 |.bool _,_,r=>r
 |.str _,_,r=>r
 |.bf full xs,v,r=>by
   simp only[bc]at r ⊢;obtain⟨a,c,h1,D,aj,a1,bU⟩:=r;refine⟨a,c,h1,D,aj,a1,?_⟩;rcases bU with bU|⟨b,o,bU,dP⟩
   ·exact .inl bU
   ·exact .inr ⟨b,o,bU,zq h xs b o dP⟩
 |.fO cs,v,r=>by
   simp only[bc]at r ⊢;obtain⟨b,o,h1,D⟩:=r;exact⟨b,o,h1,M8 h cs b o D⟩
 |.agg cs,v,r=>by
   simp only[bc]at r ⊢;obtain⟨vs,h1,D⟩:=r;exact⟨vs,h1,nT h cs _ D⟩
 |.cI cs,v,r=>by
   simp only[bc]at r ⊢;obtain⟨vs,h1,D⟩:=r;exact⟨vs,h1,nT h cs _ D⟩
 |.fn f aO,v,r=>by
   simp only[bc]at r ⊢;obtain⟨vs,h1,D⟩:=r;exact⟨vs,h1,nT h aO _ D⟩
 |.c4,_,r=>r
 |.nI,_,r=>r
 |.own _,_,r=>r
 |.ptr _ _,_,r=>r
 |.dr _,_,r=>r
 |.eU f aO,v,r=>by
   simp only[bc]at r ⊢;obtain⟨vs,h1,D⟩:=r;exact⟨vs,h1,nT h aO _ D⟩
 |.ko,_,r=>by simp only[bc]at r ⊢;exact r
 |.fR _ _,_,r=>r
 |.arr _,v,r=>by simpa only[bc]using r
 |.dw bH,v,r=>by
   simp only[bc]at r ⊢;obtain⟨b,es,clock,h1,D,aj,a1⟩:=r;exact⟨b,es,clock,h1,h _ _ _ D,mS h bH _ aj,a1⟩
def mS{I aU:bs}(h:cn I aU):∀(x:List (Q×Q)) (es:nM),gq I x es→gq aU x es
 |[],_,r=>r
 |(k,aA)::x,es,r=>by
   simp only[gq]at r ⊢;obtain⟨e,bI,h1,D,aj,a1⟩:=r;exact⟨e,bI,h1,jV h k _ D,jV h aA _ aj,mS h x bI a1⟩
def nT{I aU:bs}(h:cn I aU):∀(x:List Q) (v:dZ),cV I x v→cV aU x v
 |[],_,r=>r
 |x::xs,v,r=>by
   simp only[cV]at r ⊢;obtain⟨aA,bI,h1,D,aj⟩:=r;exact⟨aA,bI,h1,jV h x aA D,nT h xs bI aj⟩
def M8{I aU:bs}(h:cn I aU):∀(x:List Q) (b o:Nat),k4 I b x o→k4 aU b x o
 |[],_,_,r=>r
 |x::xs,b,o,r=>by
   simp only[k4]at r ⊢;obtain⟨⟨aA,h1,D⟩,aj⟩:=r;exact⟨⟨aA,h _ _ _ h1,jV h x aA D⟩,M8 h xs b (o+1) aj⟩
def zq{I aU:bs}(h:cn I aU):∀(x:List (List Q)) (b o:Nat),jC I b x o→jC aU b x o
 |[],_,_,r=>r
 |x::xs,b,o,r=>by
   simp only[jC]at r ⊢;exact⟨M8 h x b o r.1,zq h xs b (o+x.length) r.2⟩
end
def hp(β β':Nat→Value):Prop:=∀d,β d=.nilFunc∨β' d=β d
def hp.refl(β:Nat→Value):hp β β:=λ_=>.inr rfl
mutual
def BL{I aU:bs}{β β':Nat→Value}(h:cn I aU)(U:hp β β'):∀(x:Q) (v:Value),au I β x v→au aU β' x v
 |.e9,_,_=>trivial
 |.undef,v,r=>by simp only[au]at r ⊢;exact jV h _ v r
 |.int _ _,v,r=>by simp only[au]at r ⊢;exact jV h _ v r
 |.bool _,v,r=>by simp only[au]at r ⊢;exact jV h _ v r
 |.str _,v,r=>by simp only[au]at r ⊢;exact jV h _ v r
 |.bf _ _,v,r=>by simp only[au]at r ⊢;exact jV h _ v r
 |.fO _,v,r=>by simp only[au]at r ⊢;exact jV h _ v r
 |.c4,v,r=>by simp only[au]at r ⊢;exact jV h _ v r
 |.nI,v,r=>by simp only[au]at r ⊢;exact jV h _ v r
 |.eU _ _,v,r=>by simp only[au]at r ⊢;exact jV h _ v r
 |.ko,v,r=>by simp only[au]at r ⊢;exact jV h _ v r
 |.dw _,v,r=>by simp only[au]at r ⊢;exact jV h _ v r
 |.arr _,v,r=>by simp only[au]at r ⊢;exact jV h _ v r
 |.agg cs,v,r=>by
   simp only[au]at r ⊢;obtain⟨vs,h1,D⟩:=r;exact⟨vs,h1,tW h U cs _ D⟩
 |.cI cs,v,r=>by
   simp only[au]at r ⊢;obtain⟨vs,h1,D⟩:=r;exact⟨vs,h1,tW h U cs _ D⟩
 |.fn f aO,v,r=>by
   simp only[au]at r ⊢;obtain⟨vs,h1,D⟩:=r;exact⟨vs,h1,tW h U aO _ D⟩
 |.own d,v,r=>by
   simp only[au]at r ⊢;obtain⟨rfl,D⟩:=r;rcases U d with e|e
   ·rw[e]at D;simp[iD]at D
   ·exact⟨e.symm,D⟩
 |.dr d,v,r=>by
   simp only[au]at r ⊢;obtain⟨rfl,D⟩:=r;rcases U d with e|e
   ·rw[e]at D;simp[mJ]at D
   ·exact⟨e.symm,D⟩
 |.ptr d off,v,r=>by
   simp only[au]at r ⊢;obtain⟨b,h1,D⟩:=r;rcases U d with e|e
   ·rw[e]at h1;simp[b1]at h1
   ·exact⟨b,by rw[e];exact h1,D⟩
 |.fR k d,v,r=>by
   simp only[au]at r ⊢;rcases U d with e|e
   ·rw[e]at r;exact(auK r).elim
   ·rw[e];exact r
def tW{I aU:bs}{β β':Nat→Value}(h:cn I aU)(U:hp β β'):∀(x:List Q) (v:dZ),bW I β x v→bW aU β' x v
 |[],_,r=>r
 |x::xs,v,r=>by
   simp only[bW]at r ⊢;obtain⟨aA,bI,h1,D,aj⟩:=r;exact⟨aA,bI,h1,BL h U x aA D,tW h U xs bI aj⟩
end
mutual
def Q.refs(p:Nat→Bool):Q→Bool
 |.agg cs=>o6 p cs
 |.cI cs=>o6 p cs
 |.fn _ cs=>o6 p cs
 |.own d=>p d
 |.ptr d _=>p d
 |.fR _ d=>p d
 |.dr d=>p d
 |_=>false
def o6(p:Nat→Bool):List Q→Bool
 |[]=>false
 |x::r=>x.refs p||o6 p r
end
mutual
def u4{I:bs}{β β':Nat→Value}{p:Nat→Bool}(U:∀d,p d=false→β' d=β d):∀(x:Q) (v:Value),x.refs p=false→au I β x v→au I β' x v
 |.e9,_,_,_=>trivial
 |.undef,v,_,r=>by simp only[au]at r ⊢;exact r
 |.int _ _,v,_,r=>by simp only[au]at r ⊢;exact r
 |.bool _,v,_,r=>by simp only[au]at r ⊢;exact r
 |.str _,v,_,r=>by simp only[au]at r ⊢;exact r
 |.bf _ _,v,_,r=>by simp only[au]at r ⊢;exact r
 |.fO _,v,_,r=>by simp only[au]at r ⊢;exact r
 |.c4,v,_,r=>by simp only[au]at r ⊢;exact r
 |.nI,v,_,r=>by simp only[au]at r ⊢;exact r
 |.eU _ _,v,_,r=>by simp only[au]at r ⊢;exact r
 |.ko,v,_,r=>by simp only[au]at r ⊢;exact r
 |.dw _,v,_,r=>by simp only[au]at r ⊢;exact r
 |.arr _,v,_,r=>by simp only[au]at r ⊢;exact r
 |.agg cs,v,e,r=>by
   simp only[au,Q.refs]at r e ⊢;obtain⟨vs,h1,D⟩:=r;exact⟨vs,h1,EM U cs _ e D⟩
 |.cI cs,v,e,r=>by
   simp only[au,Q.refs]at r e ⊢;obtain⟨vs,h1,D⟩:=r;exact⟨vs,h1,EM U cs _ e D⟩
 |.fn f aO,v,e,r=>by
   simp only[au,Q.refs]at r e ⊢;obtain⟨vs,h1,D⟩:=r;exact⟨vs,h1,EM U aO _ e D⟩
 |.own d,v,e,r=>by
   simp only[au,Q.refs]at r e ⊢;rw[U d e];exact r
 |.dr d,v,e,r=>by
   simp only[au,Q.refs]at r e ⊢;rw[U d e];exact r
 |.ptr d off,v,e,r=>by
   simp only[au,Q.refs]at r e ⊢;rw[U d e];exact r
 |.fR k d,v,e,r=>by
   simp only[au,Q.refs]at r e ⊢;rw[U d e];exact r
def EM{I:bs}{β β':Nat→Value}{p:Nat→Bool}(U:∀d,p d=false→β' d=β d):∀(x:List Q) (v:dZ),o6 p x=false→bW I β x v→bW I β' x v
 |[],_,_,r=>r
 |x::xs,v,e,r=>by
   simp only[bW,o6,Bool.or_eq_false_iff]at r e ⊢;obtain⟨aA,bI,h1,D,aj⟩:=r;exact⟨aA,bI,h1,u4 U x aA e.1 D,EM U xs bI e.2 aj⟩
end
inductive gQ where
 |sl (T:TypeId) (sz:Nat) (xs:List (List Q))
 |mp (K E:TypeId) (bH:List (Q×Q))
inductive cc where
 |cells (T:TypeId) (cs:List Q)
 |slice (T:TypeId) (sz:Nat) (xs:List (List Q)) (k:Nat) (c5:Bool)
 |map (K E:TypeId) (bH:List (Q×Q))
 |win (T:TypeId) (sz:Nat) (xs:List (List Q))
 |kf (K E:TypeId) (bH:List (Q×Q))
 |gz (es:iT) (clock:Nat) (K E:TypeId) (bH:List (Q×Q))
 |iter (cz q9 kW:Nat) (seen:oA)
 |hdr (cz n:Nat)
 |b9 (cU:List gQ)
 |eO (T:TypeId) (e n:Nat) (du:Option (ku×Nat))
 |fc (K E:TypeId) (e:Nat) (keys:List Q) (du:Option (ku×Nat)) (iK:Option (iT×Nat))
 |gP (T:TypeId) (xs:List (List Q)) (t:Nat)
 |vec (T:TypeId) (xs:cq)
 |jP (es:iT) (clock:Nat) (bH:List (Q×Q)) (seen:oA)
abbrev Y:=List (Nat×cc)
def Y.get:Y→Nat→Option cc
 |[],_=>none
 |(k,v)::r,n=>bif Nat.beq k n then some v else Y.get r n
abbrev ah:=List (Nat×Q)
def ah.get:ah→Nat→Q
 |[],_=>.e9
 |(k,v)::r,n=>bif Nat.beq k n then v else ah.get r n
def ah.put(env:ah)(d:ku)(v:Q):ah:=match d with|some t=>(t,v)::env|none=>env
def asI(k:Nat)(v:Q)(r:ah)(n:Nat):ah.get ((k,v)::r) n=if k=n then v else ah.get r n:=by
 simp only[ah.get];by_cases h:k=n
 ·subst h;simp
 ·have:Nat.beq k n=false:=by rw[←Bool.not_eq_true,Nat.beq_eq];exact h
  simp[this,h]
def asw(k:Nat)(v:cc)(r:Y)(n:Nat):Y.get ((k,v)::r) n=if k=n then some v else Y.get r n:=by
 simp only[Y.get];by_cases h:k=n
 ·subst h;simp
 ·have:Nat.beq k n=false:=by rw[←Bool.not_eq_true,Nat.beq_eq];exact h
  simp[this,h]
mutual
def l1:Value→Q
 |.int k n=>.int k n
 |.bool b=>.bool b
 |.string s=>.str s
 |.slice none 0 0=>.c4
 |.pointer none=>.nI
 |.agg ⟨cs⟩=>.agg (rU cs)
 |_=>.e9
def rU:dZ→List Q
 |[]=>[]
 |x::r=>l1 x::rU r
end
mutual
def N1(I:bs)(β:Nat→Value):∀v,au I β (l1 v) v
 |.int k n=>by simp[l1,au,bc]
 |.bool b=>by simp[l1,au,bc]
 |.string s=>by simp[l1,au,bc]
 |.slice none 0 0=>by simp[l1,au,bc]
 |.slice none 0 (n+1)=>by simp[l1,au]
 |.slice none (m+1) n=>by simp[l1,au]
 |.slice (some a) m n=>by simp[l1,au]
 |.pointer none=>by simp[l1,au,bc]
 |.pointer (some a)=>by simp[l1,au]
 |.agg ⟨cs⟩=>by simp only[l1,au];exact⟨_,rfl,Ig I β cs⟩
 |.float _ _=>by simp[l1,au]
 |.complex _ _ _=>by simp[l1,au]
 |.map _=>by simp[l1,au]
 |.chan _=>by simp[l1,au]
 |.func _ _ _=>by simp[l1,au]
 |.nilFunc=>by simp[l1,au]
 |.iface _ _=>by simp[l1,au]
 |.nilIface=>by simp[l1,au]
 |.tuple _=>by simp[l1,au]
def Ig(I:bs)(β:Nat→Value):∀vs,bW I β (rU vs) vs
 |[]=>by simp[rU,bW]
 |x::r=>by simp only[rU,bW];exact⟨x,r,rfl,N1 I β x,Ig I β r⟩
end
def ah.ev(env:ah):Operand→Q
 |.tmp t=>env.get t
 |.const v=>l1 v
 |.func f=>.fn f []
 |.global _=>.e9
structure ch where
 P:Program
 N:Nat
 ids:dg
structure eW where
 B:Nat
 w0:World
 I0:bs
 yy:dg
 wY:Nat→Value
def Place(cx:eW)(b:Nat):Prop:=cx.B≤b∨b∈cx.yy
def kC(cx:eW)(I:bs)(w:World):gQ→Value→Prop
 |.sl T sz xs,v=>(v=.slice none 0 0∧xs=[])∨
   ∃b aO arr,v=.slice (some ⟨b,0,none⟩) xs.length aO∧xs.length≤aO∧aO≤maxLen∧w.heap[b]?=some (.cells arr T (0,0))∧arr.size=aO*sz∧
    cV I xs.flatten (arr.toList.take (xs.length*sz))∧(∀e∈xs,e.length=sz)∧(∀o:Nat,I b o=none)∧Place cx b
 |.mp _ _ bH,v=>∃r es clock,v=.map (some r)∧w.heap[r]?=some (.map es clock)∧gq I bH es.toList∧(∀o,I r o=none)∧Place cx r∧jZ es clock
def hs(cx:eW)(I:bs)(w:World):List gQ→dZ→Prop
 |[],vs=>vs=[]
 |x::r,vs=>∃aA bI,vs=aA::bI∧kC cx I w x aA∧(∀b,b1 aA=some b→b∉bI.filterMap b1)∧hs cx I w r bI
def jD(β:Nat→Value)(X cv:dZ):Option (ku×Nat)→Prop
 |none=>cv=X
 |some (none,_)=>cv=X
 |some (some i,t)=>i<X.length∧β t≠.nilFunc∧cv=X.set i (β t)
def k6(I:bs):List Q→dZ→nM→Prop
 |[],vs,es=>vs=[]∧es=[]
 |k::ks,vs,es=>∃v bI e mB,vs=v::bI∧es=e::mB∧bc I k e.key∧e.val=v∧k6 I ks bI mB
def aY(cx:eW)(I:bs)(β:Nat→Value)(w:World)(d:Nat):cc→Prop
  |.cells T cs=>β d=.nilFunc∨∃b arr,β d=.pointer (some ⟨b,0,none⟩)∧w.heap[b]?=some (.cells arr T (0,0))∧bW I β cs arr.toList∧(∀o,I b o=none)∧Place cx b
  |.slice T sz xs k c5=>β d=.nilFunc∨(β d=.slice none 0 0∧xs=[]∧k=0)∨
      ∃b aO arr,β d=.slice (some ⟨b,0,none⟩) xs.length aO∧xs.length≤aO∧aO≤maxLen∧w.heap[b]?=some (.cells arr T (0,0))∧arr.size=aO*sz∧
        cV I xs.flatten (arr.toList.take (xs.length*sz))∧(∀e∈xs,e.length=sz)∧k≤xs.length∧
        (c5=true→∀o,o<xs.length*sz→I b o=arr[o]?)∧(∀o,k*sz≤o→I b o=none)∧Place cx b
  |.map _ _ bH=>β d=.nilFunc∨∃r es clock,β d=.map (some r)∧w.heap[r]?=some (.map es clock)∧gq I bH es.toList∧(∀o,I r o=none)∧Place cx r∧jZ es clock
  |.kf _ _ bH=>β d=.nilFunc∨∃r es clock,β d=.map (some r)∧I r none=some (pU es clock)∧gq I bH es.toList∧Place cx r∧jZ es clock
  |.gz es clock _ _ bH=>β d=.nilFunc∨∃r,β d=.map (some r)∧w.heap[r]?=some (.map es clock)∧gq I bH es.toList∧(∀o,I r o=none)∧Place cx r∧jZ es clock
  |.iter cz q9 kW seen=>β d=.nilFunc∨∃r fx,β d=.pointer (some ⟨r,0,none⟩)∧b1 (β cz)=some fx∧w.heap[r]?=some (.mapIter (some fx) q9 seen kW)∧(∀o,I r o=none)∧Place cx r
  |.hdr cz n=>β d=.pointer none∧∃a c,β cz=.slice a n c
  |.b9 cU=>β d=.nilFunc∨∃X:iY,β d=.tuple X∧hs cx I w cU X.toList
  |.eO T e n du=>β d=.nilFunc∨∃b aO arr X,β d=.slice (some ⟨b,0,none⟩) n aO∧n≤aO∧aO≤maxLen∧w.heap[b]?=some (.cells arr T (0,0))∧arr.size=aO∧
        β e=.tuple X∧X.size=n∧jD β X.toList (arr.toList.take n) du∧(∀o:Nat,I b o=none)∧Place cx b
  |.fc _ _ e keys du iK=>β d=.nilFunc∨∃r es clock X cv,β d=.map (some r)∧w.heap[r]?=some (.map es clock)∧β e=.tuple X∧jD β X.toList cv du∧k6 I keys cv es.toList∧
        (∀o,I r o=none)∧Place cx r∧jZ es clock∧(∀q,iK=some q→q=(es,clock))
  |.gP T xs t=>β d=.nilFunc∨∃b aO arr,β d=.slice (some ⟨b,0,none⟩) (xs.length+1) aO∧xs.length+1≤aO∧aO≤maxLen∧w.heap[b]?=some (.cells arr T (0,0))∧arr.size=aO∧
        cV I xs.flatten (arr.toList.take xs.length)∧(∀e∈xs,e.length=1)∧arr[xs.length]?=some (β t)∧β t≠.nilFunc∧(∀o:Nat,I b o=none)∧Place cx b
  |.vec T xs=>β d=.nilFunc∨∃b arr,β d=.pointer (some ⟨b,0,none⟩)∧w.heap[b]?=some (.cells arr T (0,0))∧arr.toList=xs.map (Value.int .i64)∧(∀o,I b o=none)∧Place cx b
  |.jP es clock bH seen=>β d=.nilFunc∨∃r fx,β d=.pointer (some ⟨r,0,none⟩)∧w.heap[r]?=some (.mapIter (some fx) clock seen clock)∧I fx none=some (pU es clock)∧gq I bH es.toList∧jZ es clock∧(∀o,I r o=none)∧Place cx r
  |.win T sz xs=>β d=.nilFunc∨(β d=.slice none 0 0∧xs=[])∨
      ∃b gl aO arr,β d=.slice (some ⟨b,gl,none⟩) xs.length aO∧xs.length≤aO∧aO≤maxLen∧w.heap[b]?=some (.cells arr T (0,0))∧(xs.length<aO→gl+aO*sz≤arr.size)∧
        jC I b xs gl∧(∀e∈xs,e.length=sz)∧(xs.length<aO→∀o,gl+xs.length*sz≤o→I b o=none)∧Place cx b
variable {X cv:dZ}{du:Option (ku×Nat)}{β:Nat→Value}
def jD.len(h:jD β X cv du):cv.length=X.length:=by
 cases du with
 |none=>rw[show cv=X from h]
 |some q=>
  obtain⟨i,t⟩:=q;cases i with
  |none=>rw[show cv=X from h]
  |some i=>obtain⟨_,_,h⟩:=h;rw[h,length_set]
variable {cx:eW}{w:World}
def kC.go{oQ:eW}{aU:bs}{w':World}{x:gQ}{v:Value}(hle:cn I aU)(U:∀b,b1 v=some b→(b<w.heap.size→w'.heap[b]?=w.heap[b]?)∧(∀o,aU b o=I b o)∧(Place cx b→Place oQ b))(h:kC cx I w x v):kC oQ aU w' x v:=by
 cases x with
 |sl T sz xs=>
  rcases h with h|⟨b,aO,arr,h1,D,aj,a1,bU,dP,fz,ka,iy⟩
  ·exact .inl h
  ·obtain⟨cp,cG,gC⟩:=U b (by rw[h1];rfl);exact .inr ⟨b,aO,arr,h1,D,aj,(cp (Array.getElem?_eq_some_iff.1 a1).1).trans a1,bU,nT hle _ _ dP,fz,λo=>(cG o).trans (ka o),gC iy⟩
 |mp K E bH=>
  obtain⟨r,es,clock,h1,D,aj,a1,bU,dP⟩:=h;obtain⟨cp,cG,gC⟩:=U r (by rw[h1];rfl);exact⟨r,es,clock,h1,(cp (Array.getElem?_eq_some_iff.1 D).1).trans D,mS hle _ _ aj,λo=>(cG o).trans (a1 o),gC bU,dP⟩
def hs.go{cx oQ:eW}{I aU:bs}{w w':World}(hle:cn I aU):∀{cU:List gQ} {vs:dZ},(∀b∈vs.filterMap b1,(b<w.heap.size→w'.heap[b]?=w.heap[b]?)∧(∀o,aU b o=I b o)∧(Place cx b→Place oQ b))→hs cx I w cU vs→hs oQ aU w' cU vs
 |[],_,_,h=>h
 |x::r,vs,U,h=>by
  obtain⟨aA,bI,rfl,h1,D,aj⟩:=h;refine⟨aA,bI,rfl,h1.go hle λb kI=>U b ?_,D,hs.go hle (λb ha=>U b ?_) aj⟩
  ·simp[kI]
  ·rw[filterMap_cons];split
   ·exact ha
   ·exact mem_cons_of_mem _ ha
def k6.mono{I aU:bs}(hle:cn I aU):∀{ks:List Q} {vs:dZ} {es:nM},k6 I ks vs es→k6 aU ks vs es
 |[],_,_,h=>h
 |k::ks,vs,es,h=>by
  obtain⟨v,bI,e,mB,h1,D,aj,a1,bU⟩:=h;exact⟨v,bI,e,mB,h1,D,jV hle k _ aj,a1,k6.mono hle bU⟩
variable {β':Nat→Value}
def jD.hle(U:hp β β')(h:jD β X cv du):jD β' X cv du:=by
 cases du with
 |none=>exact h
 |some q=>
  obtain⟨i,t⟩:=q;cases i with
  |none=>exact h
  |some i=>
   obtain⟨h1,D,aj⟩:=h;rcases U t with e|e
   ·exact absurd e D
   ·exact⟨h1,by rw[e];exact D,by rw[e];exact aj⟩
def jD.beta(U:∀i t,du=some (i,t)→β' t=β t)(h:jD β X cv du):jD β' X cv du:=by
 cases du with
 |none=>exact h
 |some q=>obtain⟨i,t⟩:=q;cases i<;>simp only[jD,U _ t rfl]at h ⊢<;>exact h
def aY.heap{cx:eW}{I:bs}{β:Nat→Value}{w w':World}{d:Nat}{o:cc}(e:w'.heap=w.heap)(h:aY cx I β w d o):aY cx I β w' d o:=by
 cases o with
 |b9 cU=>
  simp only[aY]at h ⊢;rcases h with q|⟨X,ak,ar⟩
  ·exact .inl q
  ·exact .inr ⟨X,ak,ar.go (cn.refl I) λb _=>⟨λ_=>by rw[e],λ_=>rfl,id⟩⟩
 |_=>simpa only[aY,e]using h
def bs.on(I:bs)(f:Nat→Nat→Option Value):bs:=λb o=>match o with
 |none=>I b none
 |some o=>f b o
structure bY(G:ch)(cx:eW)(I:bs)(β:Nat→Value)(σ:Y)(w:World):Prop where
 good:∀b (o:Nat) v,I b o=some v→w.cell? ⟨b,o,none⟩=some v
 hM:∀b v,I b none=some v→∃es clock,w.heap[b]?=some (.map es clock)∧v=pU es clock
 jg:cn cx.I0 I
 iV:∀b,b<cx.B→b∉cx.yy→∀o,I b o=cx.I0 b o
 frame:∀b,b<cx.B→b∉cx.yy→w.heap[b]?=cx.w0.heap[b]?
 size:cx.B≤w.heap.size
 tape:w.tape=cx.w0.tape
 os:w.os=cx.w0.os
 output:w.output=cx.w0.output
 drawn:cx.w0.drawn≤w.drawn
 cw:∀d o,σ.get d=some o→aY cx I β w d o
 dA:∀d dh,(σ.get d).isSome→(σ.get dh).isSome→d≠dh→∀b∈c2 (β d),b∉c2 (β dh)
 keep:∀d∈G.ids,β d=cx.wY d
variable {G:ch}{σ:Y}
def avl(h:bY G cx I β σ w):∀d dh,(σ.get d).isSome→(σ.get dh).isSome→d≠dh→∀b,b1 (β d)=some b→b1 (β dh)≠some b:=
 λd dh h1 D cb b U ha=>h.dA d dh h1 D cb b (j8 U) (j8 ha)
def m3(P:Program)(Φ:Value→World→Prop):Result Next→Prop
 |.ok (.value v) w'=>Φ v w'
 |.ok .skip w'=>Φ undef w'
 |.ok (.enter f args) w'=>Calls P f args w' (λe uv=>∃v,e=.returned v∧Φ v uv)
 |_=>False
def m3.wp{P:Program}{o:Oper}{a:Act}{w:World}{Φ:Value→World→Prop}{K:Act→World→Prop}{bq:Exit→Act→World→Prop}
  (h:m3 P Φ ((execOp a.eval o).run P w)) (hk:∀v w',Φ v w'→K (a.put o.dst v) w'):o.wp P a w K bq:=by
 unfold Oper.wp;generalize (execOp a.eval o).run P w=r at h;cases r with
 |halt x w'=>exact h.elim
 |ok n w'=>
  cases n<;>simp only[m3]at h<;>simp only[Oper.upon]
  case value v=>exact hk _ _ h
  case skip=>exact hk _ _ h
  case enter f args=>
   exact Calls.mono h λe uv ⟨v,he,aa⟩=>by subst he;exact hk _ _ aa
def Yields(G:ch)(o:Oper)(ev:Operand→Q)(σ:Y)(dI R:dg)(bN:Q):Prop:=
 ∀(az:Y) (cx:eW) (I:bs) (β:Nat→Value) (w:World) (aZ:Operand→Value),(∀d∈R,az.get d=σ.get d)→bY G cx I β az w→(∀d∈dI,β d=.nilFunc)→
  (∀x∈o.op.operands,au I β (ev x) (aZ x))→
  m3 G.P (λv w'=>∃aU β',au aU β' bN v∧bY G cx aU β' az w'∧cn I aU∧(∀d,d∉dI→β' d=β d)) ((execOp aZ o).run G.P w)
def h5(G:ch)(o:Oper)(ev:Operand→Q)(σ:Y)(M news:dg)(Φ:Q→Y→Prop):Prop:=
 ∀(cx:eW) (I:bs) (β:Nat→Value) (w:World) (aZ:Operand→Value),bY G cx I β σ w→(∀x∈o.op.operands,au I β (ev x) (aZ x))→
  m3 G.P (λv w'=>∃bN az aU β',Φ bN az∧au aU β' bN v∧bY G cx aU β' az w'∧cn I aU∧(∀d,d∉news→β' d=β d)∧(∀d,d∉M→az.get d=σ.get d)) ((execOp aZ o).run G.P w)
mutual
def Ny{p:Nat→Bool}(h:∀d,p d=false):∀x:Q,x.refs p=false
 |.e9|.undef|.int _ _|.bool _|.str _|.bf _ _|.fO _|.c4|.nI|.eU _ _|.ko|.dw _|.arr _=>rfl
 |.agg cs=>by simp only[Q.refs];exact xG h cs
 |.cI cs=>by simp only[Q.refs];exact xG h cs
 |.fn _ cs=>by simp only[Q.refs];exact xG h cs
 |.own d=>h d
 |.ptr d _=>h d
 |.fR _ d=>h d
 |.dr d=>h d
def xG{p:Nat→Bool}(h:∀d,p d=false):∀x:List Q,o6 p x=false
 |[]=>rfl
 |x::r=>by simp only[o6,Ny h x,xG h r,Bool.or_self]
end
def ah.clean(p:Nat→Bool):ah→Bool
 |[]=>true
 |(_,v)::r=>!v.refs p&&ah.clean p r
def nV(p:Nat→Bool):cc→Bool
 |.cells _ cs=>o6 p cs
 |.iter cz _ _ _=>p cz
 |.hdr cz _=>p cz
 |.eO _ e _ h=>p e||(match h with|some (_,t)=>p t|none=>false)
 |.fc _ _ e _ h _=>p e||(match h with|some (_,t)=>p t|none=>false)
 |.gP _ _ t=>p t
 |_=>false
def Y.clean(p:Nat→Bool):Y→Bool
 |[]=>true
 |(d,v)::r=>!p d&&!nV p v&&Y.clean p r
def asU{p:Nat→Bool}:∀{env:ah},env.clean p=true→∀t,(env.get t).refs p=false
 |[],_,t=>by simp[ah.get,Q.refs]
 |(k,v)::r,h,t=>by
   simp only[ah.clean,Bool.and_eq_true,Bool.not_eq_true']at h;rw[asI];split
   ·exact h.1
   ·exact asU h.2 t
def asF{p:Nat→Bool}:∀{σ:Y},σ.clean p=true→∀d o,σ.get d=some o→p d=false∧nV p o=false
 |[],_,d,o,e=>by simp[Y.get]at e
 |(k,v)::r,h,d,o,e=>by
   simp only[Y.clean,Bool.and_eq_true,Bool.not_eq_true']at h;rw[asw]at e;split at e
   ·rename_i hk;subst hk;cases e;exact⟨h.1.1,h.1.2⟩
   ·exact asF h.2 d o e
def as2(e:ah):e.clean ([]:dg).contains=true:=by
 induction e with
 |nil=>rfl
 |cons x r bg=>simp only[ah.clean,bg,Ny (p:=([]:dg).contains) (λ_=>rfl) x.2,Bool.not_false,Bool.and_self]
def atm(e:Y):e.clean ([]:dg).contains=true:=by
 induction e with
 |nil=>rfl
 |cons x r bg=>
  have:nV ([]:dg).contains x.2=false:=by
   obtain⟨d,o⟩:=x;cases o with
   |cells T cs=>exact xG (λ_=>rfl) _
   |eO T e n h=>cases h<;>rfl
   |fc K E e keys h iK=>cases h<;>rfl
   |_=>rfl
  simp only[Y.clean,bg,this];rfl
def Tt:cc→Bool
 |.hdr _ _=>false
 |_=>true
def wP(G:ch)(σ:Y)(dI:dg)(σ2:Y)(env:ah):Prop:=
 (∀d,d∉dI→σ2.get d=σ.get d)∧(∀d∈dI,d∉G.ids)∧env.clean dI.contains=true∧σ.clean dI.contains=true∧∀d∈dI,∀cz n,σ2.get d≠some (.hdr cz n)
def as3(G:ch)(σ:Y)(env:ah):wP G σ [] σ env:=⟨λ_ _=>rfl,λ_ h=>by simp at h,as2 env,atm σ,λ_ h=>by simp at h⟩
def gI(β:Nat→Value)(dI:dg):Nat→Value:=λd=>if d∈dI then .nilFunc else β d
def aY.beta{d:Nat}{o:cc}{p:Nat→Bool}(U:∀d,p d=false→β' d=β d)(Z:p d=false)(he:nV p o=false)
  (h:aY cx I β w d o):aY cx I β' w d o:=by
 cases o with
 |cells T cs=>
  simp only[aY,U d Z]at h ⊢;rcases h with h|⟨b,arr,h1,D,aj,a1⟩
  ·exact .inl h
  ·exact .inr ⟨b,arr,h1,D,EM U cs _ he aj,a1⟩
 |slice T sz xs k c5=>simpa only[aY,U d Z]using h
 |map K E bH=>simpa only[aY,U d Z]using h
 |win T sz xs=>simpa only[aY,U d Z]using h
 |kf K E bH=>simpa only[aY,U d Z]using h
 |gz es clock K E bH=>simpa only[aY,U d Z]using h
 |iter cz q9 kW seen=>simpa only[aY,U d Z,U cz he]using h
 |hdr cz n=>simpa only[aY,U d Z,U cz he]using h
 |b9 cU=>simpa only[aY,U d Z]using h
 |gP T xs t=>simpa only[aY,U d Z,U t he]using h
 |vec T xs=>simpa only[aY,U d Z]using h
 |jP es clock bH seen=>simpa only[aY,U d Z]using h
 |eO T e n du=>
  simp only[nV,Bool.or_eq_false_iff]at he
  have cA:∀X cv,jD β' X cv du↔jD β X cv du:=λX cv=>by
   cases du with
   |none=>exact Iff.rfl
   |some q=>obtain⟨i,t⟩:=q;cases i<;>simp only[jD,U t he.2]
  simpa only[aY,U d Z,U e he.1,cA]using h
 |fc K E e keys du iK=>
  simp only[nV,Bool.or_eq_false_iff]at he
  have cA:∀X cv,jD β' X cv du↔jD β X cv du:=λX cv=>by
   cases du with
   |none=>exact Iff.rfl
   |some q=>obtain⟨i,t⟩:=q;cases i<;>simp only[jD,U t he.2]
  simpa only[aY,U d Z,U e he.1,cA]using h
def bY.qy{σ2:Y}{dI:dg}{env:ah}(h:bY G cx I β σ w)(v:wP G σ dI σ2 env):
  bY G cx I (gI β dI) σ2 w:=by
 obtain⟨dK,fS,v3,v4,v5⟩:=v
 have U:∀d,dI.contains d=false→gI β dI d=β d:=λd Z=>by
  have:d∉dI:=by simpa using Z
  simp[gI,this]
 have aR:∀d,d∈dI→gI β dI d=.nilFunc:=λd Z=>by simp[gI,Z]
 refine{h with cw:=λd o e=>?_,dA:=λd dh e cB cb b=>?_,keep:=λd Z=>?_}
 ·by_cases hm:d∈dI
  ·cases o with
   |hdr cz n=>exact absurd e (v5 d hm cz n)
   |_=>simp only[aY];exact .inl (aR d hm)
  ·rw[dK d hm]at e;obtain⟨bl,b2⟩:=asF v4 d o e;exact(h.cw d o e).beta U bl b2
 ·by_cases hm:d∈dI
  ·simp[aR d hm,MY]
  ·by_cases lC:dh∈dI
   ·simp[aR dh lC,MY]
   ·rw[dK d hm]at e;rw[dK dh lC]at cB;rw[U d (by simpa using hm),U dh (by simpa using lC)];exact h.dA d dh e cB cb b
 ·have:d∉dI:=λhm=>fS d hm Z;rw[U d (by simpa using this)];exact h.keep d Z
def jm(ops:l7)(o:Oper)(env:ah):Prop:=
 match o.guard with
 |none=>True
 |some (j,want)=>∃ek g2,ops[j]?=some ek∧ek.dst=some g2∧env.get g2=.bool want
def mj(ops:l7)(o:Oper)(env:ah):Prop:=
 match o.guard with
 |none=>False
 |some (j,want)=>∃ek g2,ops[j]?=some ek∧ek.dst=some g2∧(env.get g2=.bool (!want)∨env.get g2=.undef)
structure mx where
 ff:Bool
 T:su
 es:dg
def rV(s:mx)(e:Nat)(M:dg):List (Nat×dg)→Bool
 |[]=>true
 |(i,R)::r=>((s.T.getD e []).contains i||R.all (λd=>!M.contains d))&&rV s e M r
def fD(G:ch)(ops:l7)(s:mx):List (Nat×dg)→dg→ah→Y→(ah→Y→Prop)→Prop
 |_,[],env,σ,K=>K env σ
 |log,i::l,env,σ,K=>∃o,ops[i]?=some o∧
   ((mj ops o env∧(s.ff=true→i∉s.es)∧fD G ops s ((i,[])::log) l (env.put o.dst .undef) σ K)∨
    (jm ops o env∧(s.ff=true→i∉s.es)∧∃dI R bN σ2,wP G σ dI σ2 env∧(∀d∈R,(σ2.get d).isSome)∧(∀d∈dI,d∈R)∧Yields G o env.ev σ2 dI R bN∧
     fD G ops s ((i,R)::log) l (env.put o.dst bN) σ2 K)∨
    (jm ops o env∧(s.ff=true→i∈s.es)∧∃M news Φ,h5 G o env.ev σ M news Φ∧(s.ff=true→rV s i M log=true)∧env.clean news.contains=true∧(∀d∈news,d∉G.ids∧σ.get d=none)∧
     ∀bN az,Φ bN az→fD G ops s log l (env.put o.dst bN) az K)∨
    (mj ops o env∧(s.ff=true→i∈s.es)∧fD G ops s log l (env.put o.dst .undef) σ K))
def lI(I:bs)(β:Nat→Value)(env:ah)(a:Act):Prop:=∀t,au I β (env.get t) (a.tmps.getD t undef)
def lI.ev{I:bs}{β:Nat→Value}{env:ah}{a:Act}(h:lI I β env a)(x:Operand):au I β (env.ev x) (a.eval x):=by
 cases x with
 |tmp t=>exact h t
 |const v=>exact N1 I β v
 |global g=>simp[ah.ev,au]
 |func f=>simp[ah.ev,Act.eval,au,bW]
def ET(a:Act)(d:Nat)(v:Value)(t:Nat)(Z:d<a.tmps.size):(a.put (some d) v).tmps.getD t undef=if d=t then v else a.tmps.getD t undef:=by
 simp only[Act.put];by_cases h:d=t
 ·subst h;simp[Array.getD_eq_getD_getElem?,Z]
 ·simp[h,Array.getD_eq_getD_getElem?,Array.getElem?_setIfInBounds_ne h]
end
section
def r4(G:ch)(cx:eW)(env:ah)(σ:Y)(a:Act)(w:World):Prop:=
 ∃I β,bY G cx I β σ w∧lI I β env a∧a.tmps.size=G.N∧a.defers=[]
def Pz{G:ch}{ops:l7}{o:Oper}{env:ah}{a:Act}(X:a.tmps.size=G.N)(sA:∀(j:Nat) (ek:Oper) (d:Nat),ops[j]?=some ek→ek.dst=some d→d<G.N)
  (aB:∀(j:Nat) (want:Bool),o.guard=some (j,want)→∀(ek:Oper) (g2:Nat),ops[j]?=some ek→ek.dst=some g2→∀b,(env.get g2=.bool b→a.tmps.getD g2 undef=.bool b)∧(env.get g2=.undef→a.tmps.getD g2 undef=undef)) :
  (jm ops o env→Region.wanted o (yielded ops a.tmps)=true)∧(mj ops o env→Region.wanted o (yielded ops a.tmps)=false):=by
 unfold jm mj Region.wanted;cases bu:o.guard with
 |none=>exact⟨λ_=>rfl,λh=>h.elim⟩
 |some Mt=>
  obtain⟨j,want⟩:=Mt
  have key:∀(ek:Oper) (g2:Nat),ops[j]?=some ek→ek.dst=some g2→∀v,a.tmps.getD g2 undef=v→yielded ops a.tmps j=(match v with|.bool b=>some b|_=>none):=by
   intro ek g2 h1 D v aa;have bL:=sA j ek g2 h1 D;have:a.tmps[g2]?=some v:=by
    rw[Array.getD_eq_getD_getElem?]at aa;have aj:g2<a.tmps.size:=by omega
    rw[Array.getElem?_eq_getElem aj]at aa ⊢;simpa using aa
   unfold yielded;simp only[h1,Option.bind_some,D,this];cases v<;>rfl
  constructor
  ·rintro⟨ek,g2,h1,D,aj⟩;have:=(aB j want bu ek g2 h1 D want).1 aj;simp only[key ek g2 h1 D _ this];simp
  ·rintro⟨ek,g2,h1,D,aj⟩;rcases aj with aj|aj
   ·have:=(aB j want bu ek g2 h1 D (!want)).1 aj;simp only[key ek g2 h1 D _ this];cases want<;>rfl
   ·have:=(aB j want bu ek g2 h1 D want).2 aj;simp only[key ek g2 h1 D _ this];rfl
def lI.guard{I:bs}{β:Nat→Value}{env:ah}{a:Act}(h:lI I β env a)(d:Nat)(b:Bool):
  (env.get d=.bool b→a.tmps.getD d undef=.bool b)∧(env.get d=.undef→a.tmps.getD d undef=undef):=by
 have:=h d;constructor<;>intro e<;>rw[e]at this<;>simpa [au,bc]using this
def lI.put{I:bs}{β:Nat→Value}{env:ah}{a:Act}{bN:Q}{v:Value}(h:lI I β env a)(dst:ku)(Z:∀d,dst=some d→d<a.tmps.size)(aa:au I β bN v):
  lI I β (env.put dst bN) (a.put dst v):=by
 cases dst with
 |none=>exact h
 |some d=>
  intro t;rw[ET a d v t (Z d rfl)];simp only[ah.put,asI];split
  ·exact aa
  ·exact h t
def E5(a:Act)(dst:ku)(v:Value):(a.put dst v).tmps.size=a.tmps.size:=by
 cases dst<;>simp[Act.put]
def EE(a:Act)(dst:ku)(v:Value):(a.put dst v).defers=a.defers:=by
 cases dst<;>simp[Act.put]
def lI.mono{I aU:bs}{β β':Nat→Value}{env:ah}{a:Act}(h:lI I β env a)(hi:cn I aU)(U:hp β β'):lI aU β' env a:=
 λt=>BL hi U _ _ (h t)
def lI.beta{I:bs}{β β':Nat→Value}{env:ah}{a:Act}{p:Nat→Bool}(h:lI I β env a)(U:∀d,p d=false→β' d=β d)(af:env.clean p=true):lI I β' env a:=
 λt=>u4 U _ _ (asU af t) (h t)
def IA(G:ch)(ops:l7)(s:mx)(bq:Exit→Act→World→Prop)(sA:∀(j:Nat) (ek:Oper) (d:Nat),ops[j]?=some ek→ek.dst=some d→d<G.N)(K:ah→Y→Prop)(cx:eW)
  (h8:∀env σ a w,K env σ→r4 G cx env σ a w→bq .normal a w) :
  ∀(l:dg) (log:List (Nat×dg)) (env:ah) (σ:Y) (a:Act) (w:World),fD G ops s log l env σ K→r4 G cx env σ a w→wpOps G.P ops bq l a w
 |[],log,env,σ,a,w,h,aB=>h8 _ _ _ _ h aB
 |i::l,log,env,σ,a,w,h,aB=>by
  obtain⟨o,ai,h⟩:=h;have ye:∀d,o.dst=some d→d<a.tmps.size:=λd Z=>by obtain⟨_,_,_,_,aj,_⟩:=aB;rw[aj];exact sA i o d ai Z
  simp only[wpOps,ai];obtain⟨I,β,an,bE,X,LO⟩:=aB;have J3:=Pz (o:=o) (env:=env) X sA (λj want _ ek g2 _ _ b=>bE.guard g2 b)
  have skip:∀log,mj ops o env→fD G ops s log l (env.put o.dst .undef) σ K→
    if Region.wanted o (yielded ops a.tmps)=true then o.wp G.P a w (wpOps G.P ops bq l) bq∨o.asks G.P a w∧LetsOut bq else wpOps G.P ops bq l (a.put o.dst undef) w:=by
   intro log Md h;rw[J3.2 Md];simp only[Bool.false_eq_true,if_false];exact IA G ops s bq sA K cx h8 l _ _ _ _ _ h ⟨I,β,an,bE.put _ ye (by simp[au,bc]),by rw[E5];exact X,by rw[EE];exact LO⟩
  rcases h with⟨h1,_,D⟩|⟨h1,_,dI,R,bN,σ2,aa,cf,oC,hV,D⟩|⟨h1,_,M,news,Φ,eX,_,af,sD,D⟩|⟨h1,_,D⟩
  ·exact skip _ h1 D
  ·rw[J3.1 h1];simp only[if_true];refine .inl (m3.wp (Φ:=λv w'=>∃aU β',au aU β' bN v∧bY G cx aU β' σ2 w'∧cn I aU∧(∀d,d∉dI→β' d=gI β dI d)) ?_ ?_)
   ·have oG:=an.qy aa
    have U:∀d,dI.contains d=false→gI β dI d=β d:=λd Z=>by
     have:d∉dI:=by simpa using Z
     simp[gI,this]
    exact hV σ2 cx I (gI β dI) w a.eval (λ_ _=>rfl) oG (λd Z=>by simp[gI,Z]) (λx _=>(bE.beta U aa.2.2.1).ev x)
   ·rintro v w' ⟨aU,β',rH,e1,hle,rJ⟩
    have U:∀d,dI.contains d=false→gI β dI d=β d:=λd Z=>by
     have:d∉dI:=by simpa using Z
     simp[gI,this]
    have cA:hp (gI β dI) β':=λd=>by
     by_cases hm:d∈dI
     ·left;simp[gI,hm]
     ·right;exact rJ d hm
    exact IA G ops s bq sA K cx h8 l _ _ _ _ _ D ⟨aU,β',e1,((bE.beta U aa.2.2.1).mono hle cA).put _ ye rH,by rw[E5];exact X,by rw[EE];exact LO⟩
  ·rw[J3.1 h1];simp only[if_true];refine .inl (m3.wp (eX cx I β w a.eval an (λx _=>bE.ev x)) ?_);rintro v w' ⟨bN,az,aU,β',D8,rH,e1,hle,rJ,_⟩;have akK:lI aU β' env a:=(bE.beta (p:=news.contains) (λd Z=>rJ d (by simpa using Z)) af).mono hle (hp.refl _);exact IA G ops s bq sA K cx h8 l _ _ _ _ _ (D bN az D8) ⟨aU,β',e1,akK.put _ ye rH,by rw[E5];exact X,by rw[EE];exact LO⟩
  ·exact skip _ h1 D
def wz(N:Nat)(ops:l7):Bool:=ops.toList.all λo=>match o.dst with|some d=>Nat.blt d N|none=>true
def W9{N:Nat}{ops:l7}(h:wz N ops=true):∀(j:Nat) (ek:Oper) (d:Nat),ops[j]?=some ek→ek.dst=some d→d<N:=by
 intro j ek d aT Z;have hm:ek∈ops.toList:=by simpa using Array.mem_of_getElem? aT
 have:=List.all_eq_true.1 h ek hm;simp only[Z]at this;exact(Iff.of_eq Nat.blt_eq).1 this
def nL(ops:l7)(o:Oper)(t:Nat):Bool:=(o.looksAt ops).contains t
def FZ(s:mx)(i j:Nat)(j4 ek:Oper)(ops:l7):Bool:=
 match j4.dst with
 |none=>true
 |some t=>
  (i==j&&(s.es.contains i||!nL ops ek t)) ||
  (!(i==j)&&(!(nL ops ek t)||(s.T.getD j []).contains i||(s.es.contains i&&(s.T.getD i []).contains j)) &&
   (!(ek.dst==some t)||(s.es.contains i&&s.es.contains j&&((s.T.getD j []).contains i||(s.T.getD i []).contains j))))
def v7(s:mx):dg→Bool
 |[]=>true
 |i::l=>l.all (λj=>!(s.T.getD i []).contains j&&!(i==j)&&(!s.es.contains i||(s.T.getD j []).contains i))&&v7 s l
def J4(ops:l7)(T:su):Bool:=
 (List.range ops.size).all λj=>match ops[j]? with
  |none=>false
  |some ek=>ek.after.toList.all (λe=>!Region.binds .any e||Nat.blt e.on j) &&
    (T.getD j []).all λi=>ek.after.toList.any λe=>Region.binds .any e&&(e.on==i||(T.getD e.on []).contains i)
def FO(N:Nat)(ops:l7)(s:mx)(l:dg):Bool:=
 wz N ops&&J4 ops s.T&&v7 s l&&(List.range ops.size).all (λi=>l.contains i)&&l.all (λi=>Nat.blt i ops.size)&&(s.T.length==ops.size) &&
 (List.range ops.size).all λi=>(List.range ops.size).all λj=>match ops[i]?,ops[j]? with
  |some j4,some ek=>FZ s i j j4 ek ops
  |_,_=>true
section any
variable {G:ch}{ops:l7}{s:mx}
structure Stat(G:ch)(ops:Array Oper)(s:mx):Prop where
 dst:∀(j:Nat) (ek:Oper) (d:Nat),ops[j]?=some ek→ek.dst=some d→d<G.N
 down:∀(j:Nat) (ek:Oper),ops[j]?=some ek→∀e∈ek.after,Region.binds .any e=true→e.on<j
 tab:∀(j:Nat) (ek:Oper),ops[j]?=some ek→∀i∈s.T.getD j [],∃e∈ek.after,Region.binds .any e=true∧(e.on=i∨i∈s.T.getD e.on [])
 size:s.T.length=ops.size
 read:∀(i j:Nat) (j4 ek:Oper) (t:Nat),ops[i]?=some j4→ops[j]?=some ek→j4.dst=some t→i≠j→nL ops ek t=true→i∈s.T.getD j []∨(i∈s.es∧j∈s.T.getD i [])
 self:∀(j:Nat) (ek:Oper) (t:Nat),ops[j]?=some ek→ek.dst=some t→j∉s.es→nL ops ek t=false
 one:∀(i j:Nat) (j4 ek:Oper) (t:Nat),ops[i]?=some j4→ops[j]?=some ek→j4.dst=some t→ek.dst=some t→i≠j→i∈s.es∧j∈s.es
def atO{l:dg}(h:FO G.N ops s l=true):Stat G ops s∧v7 s l=true∧(∀i,i<ops.size↔i∈l):=by
 simp only[FO,Bool.and_eq_true,List.all_eq_true,List.mem_range,beq_iff_eq]at h;obtain⟨⟨⟨⟨⟨⟨h1,D⟩,aj⟩,a1⟩,bU⟩,dP⟩,fz⟩:=h;refine⟨{dst:=W9 h1,down:=?_,tab:=?_,size:=dP,read:=?_,self:=?_,one:=?_},aj,λi=>⟨λhi=>by simpa using a1 i hi,λhi=>(Iff.of_eq Nat.blt_eq).1 (bU i hi)⟩⟩
 ·intro j ek aT e he U;have tL:j<ops.size:=(Array.getElem?_eq_some_iff.1 aT).1;simp only[J4,List.all_eq_true,List.mem_range]at D;have:=D j tL;simp only[aT,Bool.and_eq_true,List.all_eq_true]at this;have:=this.1 e (by simpa using he);simp only[U,Bool.not_true,Bool.false_or]at this;exact(Iff.of_eq Nat.blt_eq).1 this
 ·intro j ek aT i hi;have tL:j<ops.size:=(Array.getElem?_eq_some_iff.1 aT).1;simp only[J4,List.all_eq_true,List.mem_range]at D;have:=D j tL;simp only[aT,Bool.and_eq_true,List.all_eq_true]at this;have:=this.2 i hi;simp only[List.any_eq_true,Bool.and_eq_true,Bool.or_eq_true,beq_iff_eq]at this;obtain⟨e,he,U,cA⟩:=this;exact⟨e,by simpa using he,U,by simpa using cA⟩
 ·intro i j j4 ek t hi aT Z cb aH;have:=fz i (Array.getElem?_eq_some_iff.1 hi).1 j (Array.getElem?_eq_some_iff.1 aT).1;have U:(i==j)=false:=by simpa using cb
  simp only[hi,aT,FZ,Z,U,aH,Bool.not_true,Bool.not_false,Bool.true_and,Bool.false_and,Bool.false_or,Bool.or_eq_true,Bool.and_eq_true,false_or]at this;have:=this.1;simpa using this
 ·intro j ek t aT Z jt;have:=fz j (Array.getElem?_eq_some_iff.1 aT).1 j (Array.getElem?_eq_some_iff.1 aT).1;simp only[aT,FZ,Z,BEq.rfl,Bool.true_and,Bool.not_true,Bool.false_and,Bool.or_false,Bool.or_eq_true,List.contains_iff_mem,jt,false_or,Bool.not_eq_true']at this;exact this
 ·intro i j j4 ek t hi aT Z dH cb;have:=fz i (Array.getElem?_eq_some_iff.1 hi).1 j (Array.getElem?_eq_some_iff.1 aT).1;have U:(i==j)=false:=by simpa using cb
  simp only[hi,aT,FZ,Z,dH,U,Bool.not_false,Bool.true_and,Bool.false_and,Bool.false_or,Bool.or_eq_true,Bool.and_eq_true,false_or,BEq.rfl,Bool.not_true,Bool.false_eq_true]at this;have:=this.2;simp only[List.contains_iff_mem]at this;exact⟨this.1.1,this.1.2⟩
def F4(G:ch)(ops:l7)(s:mx)(env:ah)(σ:Y)(β:Nat→Value)(log:List (Nat×dg))(i:Nat)(dI:dg):Prop:=
 ∃o bN,ops[i]?=some o∧i∉s.es∧(∀t,o.dst=some t→env.get t=bN)∧
  ((mj ops o env∧bN=.undef∧dI=[])∨
   (jm ops o env∧∃R,Yields G o env.ev σ dI R bN∧(i,R)∈log∧(∀d∈R,(σ.get d).isSome)∧(∀d∈dI,d∈R∧β d=.nilFunc∧d∉G.ids)))
def ur(I:bs)(β:Nat→Value)(ops:l7)(ga:dg)(env:ah)(a:Act):Prop:=
 ∀t,(∀i∈ga,∀o,ops[i]?=some o→o.dst≠some t)→au I β (env.get t) (a.tmps.getD t undef)
def zF{fC:tr}{j:Nat}:j∈Region.ready .any ops fC↔
  fC.getD j true=false∧∃o,ops[j]?=some o∧∀e∈o.after,Region.binds .any e=true→fC.getD e.on false=true:=mem_ready
def Qr{fC:tr}{i:Nat}(hi:i<fC.size)(b c:Bool):fC.getD i b=fC.getD i c:=by
 simp[Array.getD_eq_getD_getElem?,hi]
def HO(st:Stat G ops s){fC:tr}(lE:fC.size=ops.size)
  (hX:∀j,fC.getD j false=true→∀i∈s.T.getD j [],fC.getD i false=true) {j:Nat} (aT:j∈Region.ready .any ops fC) :
  ∀i∈s.T.getD j [],fC.getD i false=true:=by
 obtain⟨_,o,ai,ny⟩:=zF.1 aT;intro i hi;obtain⟨e,he,U,h⟩:=st.tab j o ai i hi;rcases h with h|h
 ·rw[←h];exact ny e he U
 ·exact hX e.on (ny e he U) i h
def XJ(st:Stat G ops s){fC:tr}(lE:fC.size=ops.size):∀(n j:Nat),j≤n→j<ops.size→fC.getD j true=false→Region.ready .any ops fC≠[]:=by
 intro n;induction n with
 |zero=>
  intro j aT bL zg
  have:j∈Region.ready .any ops fC:=zF.2 ⟨zg,ops[j],Array.getElem?_eq_getElem bL,λe he U=>by
   have:=st.down j _ (Array.getElem?_eq_getElem bL) e he U;omega⟩
  exact ne_nil_of_mem this
 |succ n bg=>
  intro j aT bL zg;by_cases A4:∃i,i<j∧fC.getD i true=false
  ·obtain⟨i,h1,D⟩:=A4;exact bg i (by omega) (by omega) D
  ·have:j∈Region.ready .any ops fC:=zF.2 ⟨zg,ops[j],Array.getElem?_eq_getElem bL,λe he U=>by
    have Z:=st.down j _ (Array.getElem?_eq_getElem bL) e he U;have:¬fC.getD e.on true=false:=λcA=>A4 ⟨e.on,Z,cA⟩;rw[Qr (by omega) false true];simpa using this⟩
   exact ne_nil_of_mem this
def atC{env:ah}{dst:ku}{bN:Q}{x:Operand}(h:∀t,dst=some t→x≠.tmp t):(env.put dst bN).ev x=env.ev x:=by
 cases dst with
 |none=>rfl
 |some d=>
  cases x with
  |tmp t=>simp only[ah.put,ah.ev,asI];rw[if_neg (λe=>h d rfl (by rw[e]))]
  |_=>rfl
def atc{env:ah}{dst:ku}{bN:Q}{t:Nat}(h:dst≠some t):(env.put dst bN).get t=env.get t:=by
 cases dst with
 |none=>rfl
 |some d=>simp only[ah.put,asI];rw[if_neg (λe=>h (by rw[e]))]
def N2{o:Oper}{t:Nat}(h:(Operand.tmp t)∈o.op.operands):nL ops o t=true:=by
 simp only[nL,List.contains_iff_mem,Oper.looksAt];exact List.mem_append_left _ (List.mem_filterMap.2 ⟨.tmp t,by simpa using h,rfl⟩)
def WG{o ek:Oper}{j:Nat}{want:Bool}{t:Nat}(bu:o.guard=some (j,want))(aT:ops[j]?=some ek)(bE:ek.dst=some t):nL ops o t=true:=by
 simp[nL,Oper.looksAt,bu,aT,bE]
def Yields.ev{o:Oper}{ev UK:Operand→Q}{σ:Y}{dI R:dg}{bN:Q}(h:∀x∈o.op.operands,UK x=ev x)(ag:Yields G o ev σ dI R bN):Yields G o UK σ dI R bN:=
 λaz cx I β w aZ h1 D aj a1=>ag az cx I β w aZ h1 D aj (λx u=>by rw[←h x u];exact a1 x u)
def Yields.aml{o:Oper}{ev:Operand→Q}{σ σ2:Y}{dI R:dg}{bN:Q}(h:∀d∈R,σ2.get d=σ.get d)(ag:Yields G o ev σ dI R bN):Yields G o ev σ2 dI R bN:=
 λaz cx I β w aZ h1 D aj a1=>ag az cx I β w aZ (λd Z=>(h1 d Z).trans (h d Z)) D aj a1
def jm.put{o:Oper}{env:ah}{dst:ku}{bN:Q}(h:∀t,dst=some t→nL ops o t=false):(jm ops o env→jm ops o (env.put dst bN))∧(mj ops o env→mj ops o (env.put dst bN)):=by
 unfold jm mj;cases bu:o.guard with
 |none=>exact⟨id,id⟩
 |some Mt=>
  obtain⟨j,want⟩:=Mt;constructor<;>(rintro⟨ek,g2,h1,D,aj⟩;refine⟨ek,g2,h1,D,?_⟩;rw[atc (λe=>by have:=h g2 e;rw[WG bu h1 D]at this;cases this)];exact aj)
def F4.put{env:ah}{σ σ2:Y}{β eF:Nat→Value}{log VQ:List (Nat×dg)}{i:Nat}{dI:dg}{dst:ku}{bN:Q}(h:F4 G ops s env σ β log i dI)
  (Z:∀o,ops[i]?=some o→∀t,dst=some t→nL ops o t=false∧o.dst≠some t)
  (yf:∀x∈log,x∈VQ) (cf:∀R,(i,R)∈log→∀d∈R,(σ.get d).isSome→σ2.get d=σ.get d) (hm:∀d∈dI,(σ.get d).isSome→β d=.nilFunc→eF d=.nilFunc) :
  F4 G ops s (env.put dst bN) σ2 eF VQ i dI:=by
 obtain⟨o,aij,ai,jt,rH,h⟩:=h;refine⟨o,aij,ai,jt,λt bE=>?_,?_⟩
 ·rw[atc (λe=>(Z o ai t e).2 bE)];exact rH t bE
 ·have aH:∀t,dst=some t→nL ops o t=false:=λt e=>(Z o ai t e).1;rcases h with⟨h1,D⟩|⟨h1,R,hV,y4,AZ,y8⟩
  ·exact .inl ⟨(jm.put aH).2 h1,D⟩
  ·refine .inr ⟨(jm.put aH).1 h1,R,?_,yf _ y4,λd dH=>?_,λd dH=>?_⟩
   ·refine(hV.ev λx u=>?_).aml (λd dH=>cf R y4 d dH (AZ d dH));exact atC λt e uY=>by have:=aH t e;rw[N2 (uY▸u)]at this;cases this
   ·rw[cf R y4 d dH (AZ d dH)];exact AZ d dH
   ·obtain⟨ak,ar,aM⟩:=y8 d dH;exact⟨ak,hm d dH (AZ d ak) ar,aM⟩
def ur.ev{I:bs}{β:Nat→Value}{ga:dg}{env:ah}{a:Act}(h:ur I β ops ga env a){o:Oper}
  (aC:∀i∈ga,∀j4,ops[i]?=some j4→∀t,j4.dst=some t→nL ops o t=false):∀x∈o.op.operands,au I β (env.ev x) (a.eval x):=by
 intro x u;cases x with
 |tmp t=>
  refine h t λi hi j4 tN Z=>?_;have:=aC i hi j4 tN t Z;rw[N2 u]at this;cases this
 |const v=>exact N1 I β v
 |global g=>simp[ah.ev,au]
 |func f=>simp[ah.ev,Act.eval,au,bW]
def ur.want{I:bs}{β:Nat→Value}{ga:dg}{env:ah}{a:Act}(st:Stat G ops s)(X:a.tmps.size=G.N)(h:ur I β ops ga env a){o:Oper}
  (aC:∀i∈ga,∀j4,ops[i]?=some j4→∀t,j4.dst=some t→nL ops o t=false) :
  (jm ops o env→Region.wanted o (yielded ops a.tmps)=true)∧(mj ops o env→Region.wanted o (yielded ops a.tmps)=false):=by
 refine Pz X st.dst λj want bu ek g2 h1 D b=>?_
 have:=h g2 λi hi j4 tN Z=>by
  have:=aC i hi j4 tN g2 Z;rw[WG bu h1 D]at this;cases this
 constructor<;>intro e<;>rw[e]at this<;>simpa [au,bc]using this
def ur.mono{I aU:bs}{β β':Nat→Value}{ga:dg}{env:ah}{a:Act}(h:ur I β ops ga env a)(hi:cn I aU)(U:hp β β'):ur aU β' ops ga env a:=
 λt bE=>BL hi U _ _ (h t bE)
def ur.beta{I:bs}{β β':Nat→Value}{p:Nat→Bool}{ga:dg}{env:ah}{a:Act}(h:ur I β ops ga env a)(U:∀d,p d=false→β' d=β d)(af:env.clean p=true):ur I β' ops ga env a:=
 λt bE=>u4 U _ _ (asU af t) (h t bE)
def Xa{e:Nat}{M:dg}:∀{log:List (Nat×dg)},rV s e M log=true→∀i R,(i,R)∈log→i∈s.T.getD e []∨∀d∈R,d∉M
 |[],_,_,_,hm=>by simp at hm
 |(k,S)::r,h,i,R,hm=>by
  simp only[rV,Bool.and_eq_true,Bool.or_eq_true,List.contains_iff_mem,List.all_eq_true]at h;rcases mem_cons.1 hm with e|hm
  ·cases e;rcases h.1 with h1|h1
   ·exact .inl h1
   ·exact .inr λd Z=>by have:=h1 d Z;simpa using this
  ·exact Xa h.2 i R hm
structure Inv(G:ch)(ops:Array Oper)(s:mx)(cx:eW)(m:Nat→List Nat)(l ga:List Nat)(fC:Array Bool)(log:List (Nat×List Nat))(env:ah)(σ:Y)(a:Act)(w:World)(I:bs)(β:Nat→Value):Prop where
 pY:fC.size=ops.size
 ord:v7 s l=true
 sX:∀i,i<ops.size→(fC.getD i true=false↔i∈ga∨i∈l)
 uH:∀i∈ga,i∉l
 nd:ga.Nodup
 pw:∀i∈ga,∀j∈l,j∉s.T.getD i []
 ps:∀i∈ga,i<ops.size
 ls:∀i∈l,i<ops.size
 cl:∀j,fC.getD j false=true→∀i∈s.T.getD j [],fC.getD i false=true
 sj:∀i∈ga,F4 G ops s env σ β log i (m i)
 md:∀i∈ga,∀j∈ga,i≠j→∀d∈m i,d∉m j
 rw:bY G cx I β σ w
 rp:ur I β ops ga env a
 sz:a.tmps.size=G.N
 df:a.defers=[]
def N3(fC:tr)(i j:Nat)(b:Bool)(hi:i<fC.size):(fC.setIfInBounds i true).getD j b=if i=j then true else fC.getD j b:=by
 by_cases h:i=j
 ·subst h;simp[Array.getD_eq_getD_getElem?,hi]
 ·simp[h,Array.getD_eq_getD_getElem?,Array.getElem?_setIfInBounds_ne h]
section inv
variable {cx:eW}{m:Nat→dg}{l ga:dg}{fC:tr}{log:List (Nat×dg)}{env:ah}{σ:Y}{a:Act}{w:World}{I:bs}{β:Nat→Value}
def Inv.N4(inv:Inv G ops s cx m l ga fC log env σ a w I β){i:Nat}(h:i∈ga∨i∈l):fC.getD i false=false:=by
 have hi:i<ops.size:=by rcases h with h|h<;>first|exact inv.ps i h|exact inv.ls i h
 rw[Qr (by rw[inv.pY];exact hi) false true];exact(inv.sX i hi).2 h
def Inv.Rx(st:Stat G ops s)(inv:Inv G ops s cx m l ga fC log env σ a w I β){j:Nat}(aT:j∈Region.ready .any ops fC):
  ∀k,(fC.setIfInBounds j true).getD k false=true→∀i∈s.T.getD k [],(fC.setIfInBounds j true).getD i false=true:=by
 obtain⟨_,o,ai,_⟩:=zF.1 aT;have tL:j<fC.size:=by rw[inv.pY];exact(Array.getElem?_eq_some_iff.1 ai).1
 intro k hk i hi;rw[N3 _ _ _ _ tL]at hk ⊢;split
 ·rfl
 ·split at hk
  ·rename_i h;subst h;exact HO st inv.pY inv.cl aT i hi
  ·exact inv.cl k hk i hi
def Inv.Nn(st:Stat G ops s)(inv:Inv G ops s cx m l ga fC log env σ a w I β){j:Nat}{o:Oper}(aT:j∈Region.ready .any ops fC)(ai:ops[j]?=some o)(FE:j∈ga→j∉s.es):
  ∀i∈ga,∀j4,ops[i]?=some j4→∀t,j4.dst=some t→nL ops o t=false:=by
 intro i hi j4 tN t bE;rcases Bool.eq_false_or_eq_true (nL ops o t)with aH|aH
 ·exfalso;by_cases iX:i=j
  ·subst iX;have k1:some j4=some o:=tN.symm.trans ai;cases k1;have:=st.self i o t tN bE (FE hi);rw[this]at aH;cases aH
  ·rcases st.read i j j4 o t tN ai bE iX aH with h|⟨h,_⟩
   ·have:=HO st inv.pY inv.cl aT i h;rw[inv.N4 (.inl hi)]at this;cases this
   ·obtain⟨_,_,_,jt,_⟩:=inv.sj i hi;exact jt h
 ·exact aH
def Inv.Qd(st:Stat G ops s)(inv:Inv G ops s cx m l ga fC log env σ a w I β){bq:Exit→Act→World→Prop}{K:Act→World→Prop}{j:Nat}(aT:j∈Region.ready .any ops fC)(pN:j∈ga)
    (k:∀gE w' aU β',Inv G ops s cx m l (ga.erase j) (fC.setIfInBounds j true) log env σ gE w' aU β'→K gE w'):wpOp G.P ops bq j K a w:=by
  obtain⟨o,bN,ai,jt,rH,h⟩:=inv.sj j pN;have tL:j<fC.size:=by rw[inv.pY];exact inv.ps j pN
  have y6:=inv.Nn st aT ai (λ_=>jt);have an:=inv.rp.want st inv.sz y6;have ye:∀d,o.dst=some d→d<a.tmps.size:=λd Z=>by rw[inv.sz];exact st.dst j o d ai Z
  have next:∀v w' aU β',au aU β' bN v→bY G cx aU β' σ w'→cn I aU→(∀d,d∉m j→β' d=β d)→(∀d∈m j,β d=.nilFunc∨β' d=β d)→Inv G ops s cx m l (ga.erase j) (fC.setIfInBounds j true) log env σ (a.put o.dst v) w' aU β':=by
    intro v w' aU β' kD e1 hle U eS
    have cA:hp β β':=λd=>by
      by_cases Z:d∈m j
      · exact eS d Z
      · exact .inr (U d Z)
    refine{pY:=by simp[inv.pY],ord:=inv.ord,sX:=λi hi=>?_,uH:=λi hi=>inv.uH i (List.mem_of_mem_erase hi),nd:=inv.nd.erase j,
           pw:=λi hi=>inv.pw i (List.mem_of_mem_erase hi),ps:=λi hi=>inv.ps i (List.mem_of_mem_erase hi),ls:=inv.ls,cl:=inv.Rx st aT,sj:=λi hi=>?_,
           md:=λi hi k hk=>inv.md i (List.mem_of_mem_erase hi) k (List.mem_of_mem_erase hk),rw:=e1,rp:=λt bE=>?_,sz:=by rw[E5];exact inv.sz,df:=by rw[EE];exact inv.df}
    · rw[N3 _ _ _ _ tL]
      by_cases iX:j=i
      · subst iX
        simp only[if_true,Bool.true_eq_false,false_iff,not_or];exact⟨λh=>(Nodup.mem_erase_iff inv.nd).1 h|>.1 rfl,inv.uH j pN⟩
      · rw[if_neg iX,inv.sX i hi,Nodup.mem_erase_iff inv.nd]
        constructor
        · rintro(h|h)
          · exact .inl ⟨λe=>iX e.symm,h⟩
          · exact .inr h
        · rintro(h|h)
          · exact .inl h.2
          · exact .inr h
    · have mX:=List.mem_of_mem_erase hi
      have iX:i≠j:=λe=>((Nodup.mem_erase_iff inv.nd).1 hi).1 e;obtain⟨j4,aik,ak,ar,aM,aK⟩:=inv.sj i mX;refine⟨j4,aik,ak,ar,aM,?_⟩;rcases aK with aK|⟨aK,R,be,bJ,b8,cT⟩
      · exact .inl aK
      · refine .inr ⟨aK,R,be,bJ,b8,λd Z=>⟨(cT d Z).1,?_,(cT d Z).2.2⟩⟩
        rw[U d (inv.md i mX j pN iX d Z)];exact(cT d Z).2.1
    · by_cases aN:o.dst=some t
      · rw[aN,ET a t v t (by rw[inv.sz];exact st.dst j o t ai aN),if_pos rfl,rH t aN]
        exact kD
      · have:(a.put o.dst v).tmps.getD t undef=a.tmps.getD t undef:=by
          cases Z:o.dst with
          |none=>rfl
          |some d=>rw[ET a d v t (ye d Z),if_neg (λe=>aN (by rw[Z,e]))]
        rw[this];refine BL hle cA _ _ (inv.rp t λi hi j4 tN=>?_);by_cases iX:i=j
        · subst iX
          rw[ai]at tN;cases tN;exact aN
        · exact bE i ((Nodup.mem_erase_iff inv.nd).2 ⟨iX,hi⟩) j4 tN
  unfold wpOp;simp only[ai];rcases h with⟨h1,D⟩|⟨h1,R,hV,yf,AZ,y8⟩
  · rw[an.2 h1]
    simp only[Bool.false_eq_true,if_false];exact k _ _ _ _ (next undef w I β (by rw[D.1];simp[au,bc]) inv.rw (cn.refl I) (λ_ _=>rfl) (λ_ _=>.inr rfl))
  · rw[an.1 h1]
    simp only[if_true];refine .inl (m3.wp (hV σ cx I β w a.eval (λ_ _=>rfl) inv.rw (λd Z=>(y8 d Z).2.1) (inv.rp.ev y6)) ?_);rintro v w' ⟨aU,β',kD,e1,hle,U⟩;exact k _ _ _ _ (next v w' aU β' kD e1 hle U (λd Z=>.inl (y8 d Z).2.1))
def Inv.qy(st:Stat G ops s){i:Nat}(inv:Inv G ops s cx m (i::l) ga fC log env σ a w I β){o:Oper}(ai:ops[i]?=some o)(jt:i∉s.es){dI R:dg}{bN:Q}{σ2:Y}
    (aa:wP G σ dI σ2 env) (aC:(mj ops o env∧bN=.undef∧dI=[])∨(jm ops o env∧Yields G o env.ev σ2 dI R bN∧(∀d∈R,(σ2.get d).isSome)∧(∀d∈dI,d∈R))) :
    Inv G ops s cx (λk=>if k=i then dI else m k) l (i::ga) fC ((i,R)::log) (env.put o.dst bN) σ2 a w I (gI β dI):=by
  have mX:i∉ga:=λh=>inv.uH i h (by simp);have q0:=inv.ord;simp only[v7,Bool.and_eq_true,List.all_eq_true,Bool.not_eq_true',List.contains_eq_mem,decide_eq_false_iff_not,beq_eq_false_iff_ne]at q0
  have U:∀d,dI.contains d=false→gI β dI d=β d:=λd Z=>by
    have:d∉dI:=by simpa using Z
    simp[gI,this]
  have B8:∀d,(σ.get d).isSome→d∉dI:=λd Z hm=>by
    obtain⟨x,u⟩:=Option.isSome_iff_exists.1 Z;have:=(asF aa.2.2.2.1 d x u).1;simp[hm]at this
  have lC:∀p∈ga,(if p=i then dI else m p)=m p:=λp aC=>by
    have:p≠i:=λe=>by subst e;exact mX aC
    rw[if_neg this]
  refine{pY:=inv.pY,ord:=q0.2,sX:=λk hk=>?_,uH:=λk hk aH=>?_,nd:=nodup_cons.2 ⟨mX,inv.nd⟩,pw:=λk hk j aT=>?_,ps:=λk hk=>?_,ls:=λk hk=>inv.ls k (by simp[hk]),
         cl:=inv.cl,sj:=λk hk=>?_,md:=λk hk j aT cb d Z=>?_,rw:=inv.rw.qy aa,rp:=λt bE=>?_,sz:=inv.sz,df:=inv.df}
  · rw[inv.sX k hk];simp only[mem_cons]
    constructor
    · rintro(h|h|h)
      · exact .inl (.inr h)
      · exact .inl (.inl h)
      · exact .inr h
    · rintro((h|h)|h)
      · exact .inr (.inl h)
      · exact .inl h
      · exact .inr (.inr h)
  · rcases mem_cons.1 hk with rfl|hk
    · exact(q0.1 k aH).1.2 rfl
    · exact inv.uH k hk (by simp[aH])
  · rcases mem_cons.1 hk with rfl|hk
    · exact(q0.1 j aT).1.1
    · exact inv.pw k hk j (by simp[aT])
  · rcases mem_cons.1 hk with rfl|hk
    · exact inv.ls k (by simp)
    · exact inv.ps k hk
  · rcases mem_cons.1 hk with rfl|hk
    · have FE:∀t,o.dst=some t→nL ops o t=false:=λt bE=>st.self k o t ai bE jt
      refine⟨o,bN,ai,jt,λt bE=>by simp[bE,ah.put,asI],?_⟩;simp only[if_true];rcases aC with⟨h1,D⟩|⟨h1,hV,cf,oC⟩
      · exact .inl ⟨(jm.put FE).2 h1,D⟩
      · refine .inr ⟨(jm.put FE).1 h1,R,hV.ev (λx u=>atC λt e uY=>?_),by simp,cf,λd Z=>⟨oC d Z,by simp[gI,Z],aa.2.1 d Z⟩⟩
        have:=FE t e;rw[N2 (uY▸u)]at this;cases this
    · rw[lC k hk]
      refine(inv.sj k hk).put (λok jv t bE=>?_) (λx u=>by simp[u]) (λao7 aqm d Z X=>aa.1 d (B8 d X)) (λd Z X aR=>by rw[U d (by simpa using B8 d X)];exact aR);have uR:i≠k:=λe=>mX (e▸hk);constructor
      · rcases Bool.eq_false_or_eq_true (nL ops ok t)with aH|aH
        · rcases st.read i k o ok t ai jv bE uR aH with h|⟨h,_⟩
          · exact absurd h (inv.pw k hk i (by simp))
          · exact absurd h jt
        · exact aH
      · exact λe=>jt (st.one i k o ok t ai jv bE e uR).1
  · have key:∀p∈ga,∀d∈m p,d∉dI:=λp aC d Z=>by
      obtain⟨_,_,_,_,_,q⟩:=inv.sj p aC;rcases q with q|⟨_,_,_,_,wo,q⟩
      · rw[q.2.2]at Z;simp at Z
      · exact B8 d (wo d (q d Z).1)
    rcases mem_cons.1 hk with vL|y1
    · subst vL
      rcases mem_cons.1 aT with Lb|j2
      · exact absurd Lb.symm cb
      · simp only[if_true]at Z
        rw[lC j j2];exact λh=>key j j2 d h Z
    · rw[lC k y1]at Z
      rcases mem_cons.1 aT with Lb|j2
      · subst Lb
        simp only[if_true];exact key k y1 d Z
      · rw[lC j j2]
        exact inv.md k y1 j j2 cb d Z
  · have aN:o.dst≠some t:=bE i (by simp) o ai
    rw[atc aN];exact u4 U _ _ (asU aa.2.2.1 t) (inv.rp t λk hk=>bE k (by simp[hk]))
def Inv.AP(st:Stat G ops s){i:Nat}(inv:Inv G ops s cx m (i::l) ga fC log env σ a w I β){o:Oper}(ai:ops[i]?=some o)(jt:i∈s.es)(aB:i∈Region.ready .any ops fC){M news:dg}{bN:Q}{az:Y}
    (yf:rV s i M log=true) (af:env.clean news.contains=true) (sD:∀d∈news,d∉G.ids∧σ.get d=none) {v:Value} {w':World} {aU:bs} {β':Nat→Value}
    (kD:au aU β' bN v) (e1:bY G cx aU β' az w') (hle:cn I aU) (U:∀d,d∉news→β' d=β d) (oC:∀d,d∉M→az.get d=σ.get d) :
    Inv G ops s cx m l ga (fC.setIfInBounds i true) log (env.put o.dst bN) az (a.put o.dst v) w' aU β':=by
  have mX:i∉ga:=λh=>inv.uH i h (by simp);have akb:i<fC.size:=by rw[inv.pY];exact inv.ls i (by simp)
  have q0:=inv.ord;simp only[v7,Bool.and_eq_true,List.all_eq_true,Bool.not_eq_true',List.contains_eq_mem,decide_eq_false_iff_not,beq_eq_false_iff_ne]at q0;have akR:=HO st inv.pY inv.cl aB
  have Vn:∀p∈ga,p∉s.T.getD i []:=λp aC cA=>by
    have:=akR p cA;rw[inv.N4 (.inl aC)]at this;cases this
  have ye:∀d,o.dst=some d→d<a.tmps.size:=λd Z=>by rw[inv.sz];exact st.dst i o d ai Z
  refine{pY:=by simp[inv.pY],ord:=q0.2,sX:=λk hk=>?_,uH:=λk hk aH=>inv.uH k hk (by simp[aH]),nd:=inv.nd,pw:=λk hk j aT=>inv.pw k hk j (by simp[aT]),ps:=inv.ps,ls:=λk hk=>inv.ls k (by simp[hk]),
         cl:=inv.Rx st aB,sj:=λk hk=>?_,md:=inv.md,rw:=e1,rp:=λt bE=>?_,sz:=by rw[E5];exact inv.sz,df:=by rw[EE];exact inv.df}
  · rw[N3 _ _ _ _ akb]
    by_cases xq:i=k
    · subst xq
      simp only[if_true,Bool.true_eq_false,false_iff,not_or];exact⟨mX,λh=>(q0.1 i h).1.2 rfl⟩
    · rw[if_neg xq,inv.sX k hk]
      simp only[mem_cons];constructor
      · rintro(h|h|h)
        · exact .inl h
        · exact absurd h.symm xq
        · exact .inr h
      · rintro(h|h)
        · exact .inl h
        · exact .inr (.inr h)
  · have uR:i≠k:=λe=>mX (e▸hk)
    have akf:k∉s.es:=by obtain⟨_,_,_,q,_⟩:=inv.sj k hk;exact q
    refine(inv.sj k hk).put (λok jv t bE=>?_) (λx u=>u) (λR cf d Z X=>?_) (λd Z X A9=>?_)
    · constructor
      · rcases Bool.eq_false_or_eq_true (nL ops ok t)with aH|aH
        · rcases st.read i k o ok t ai jv bE uR aH with h|⟨_,h⟩
          · exact absurd h (inv.pw k hk i (by simp))
          · exact absurd h (Vn k hk)
        · exact aH
      · exact λe=>akf (st.one i k o ok t ai jv bE e uR).2
    · rcases Xa yf k R cf with h|h
      · exact absurd h (Vn k hk)
      · exact oC d (h d Z)
    · have iR:d∉news:=λh=>by rw[(sD d h).2]at X;cases X
      rw[U d iR];exact A9
  · by_cases aN:o.dst=some t
    · rw[aN,ET a t v t (ye t aN),if_pos rfl]
      simp only[ah.put,asI,if_true];exact kD
    · rw[atc aN]
      have:(a.put o.dst v).tmps.getD t undef=a.tmps.getD t undef:=by
        cases Z:o.dst with
        |none=>rfl
        |some d=>rw[ET a d v t (ye d Z),if_neg (λe=>aN (by rw[Z,e]))]
      rw[this];exact BL hle (hp.refl _) _ _ (u4 (p:=news.contains) (λd Z=>U d (by simpa using Z)) _ _ (asU af t) (inv.rp t bE))
end inv
def ZJ(st:Stat G ops s)(hdr:s.ff=true)(bq:Exit→Act→World→Prop)(K:ah→Y→Prop)(cx:eW)
  (h8:∀env σ a w,K env σ→r4 G cx env σ a w→bq .normal a w) :
  ∀(fuel:Nat) (l ga:dg) (m:Nat→dg) (fC:tr) (log:List (Nat×dg)) (env:ah) (σ:Y) (a:Act) (w:World) (I:bs) (β:Nat→Value),
   ga.length+l.length=fuel→Inv G ops s cx m l ga fC log env σ a w I β→fD G ops s log l env σ K→wpAny G.P .any ops bq fuel fC a w:=by
 intro fuel;induction fuel with
 |zero=>
  intro l ga m fC log env σ a w I β eA inv af;have aC:ga=[]:=eq_nil_of_length_eq_zero (by omega);have aH:l=[]:=eq_nil_of_length_eq_zero (by omega);subst aC aH;refine⟨?_,h8 env σ a w af ⟨I,β,inv.rw,λt=>inv.rp t (by simp),inv.sz,inv.df⟩⟩;apply eq_nil_iff_forall_not_mem.2;intro j aT;obtain⟨h1,o,ai,_⟩:=zF.1 aT;have:=(inv.sX j (Array.getElem?_eq_some_iff.1 ai).1).1 h1;simp at this
 |succ fuel bg=>
  intro l
  have VV:∀{l ga:dg} {m:Nat→dg} {fC:tr} {log:List (Nat×dg)} {env:ah} {σ:Y} {a:Act} {w:World} {I:bs} {β:Nat→Value},ga.length+l.length=fuel+1→
    Inv G ops s cx m l ga fC log env σ a w I β→Region.ready .any ops fC≠[]:=by
   intro l ga m fC log env σ a w I β eA inv;have:∃p,p∈ga∨p∈l:=by
    cases ga with
    |nil=>cases l with
     |nil=>simp at eA
     |cons p _=>exact⟨p,.inr (by simp)⟩
    |cons p _=>exact⟨p,.inl (by simp)⟩
   obtain⟨p,aC⟩:=this;have Bb:p<ops.size:=by rcases aC with h|h<;>first|exact inv.ps p h|exact inv.ls p h
   exact XJ st inv.pY _ p (Nat.le_refl _) Bb ((inv.sX p Bb).2 aC)
  induction l with
  |nil=>
   intro ga m fC log env σ a w I β eA inv af;refine⟨λaB=>absurd aB (VV eA inv),λj aT=>?_⟩;obtain⟨zg,o,ai,_⟩:=zF.1 aT;have pN:j∈ga:=by simpa using (inv.sX j (Array.getElem?_eq_some_iff.1 ai).1).1 zg
   refine inv.Qd st aT pN λgE w' aU β' Mr=>bg _ _ _ _ _ _ _ _ _ _ _ ?_ Mr af;rw[length_erase_of_mem pN];have:=length_pos_of_mem pN;omega
  |cons i l VH=>
   intro ga m fC log env σ a w I β eA inv af;obtain⟨o,ai,tJ⟩:=af;have af:fD G ops s log (i::l) env σ K:=⟨o,ai,tJ⟩;have Vg:(i::ga).length+l.length=fuel+1:=by simp at eA ⊢;omega
   have FF:∀log:List (Nat×dg),rV s i [] log=true:=by
    intro log;induction log with
    |nil=>rfl
    |cons x r Mp=>obtain⟨k,R⟩:=x;simp[rV,Mp]
   have Qs:i∈s.es→(∀(_:i∈Region.ready .any ops fC),wpOp G.P ops bq i (wpAny G.P .any ops bq fuel (fC.setIfInBounds i true)) a w)→wpAny G.P .any ops bq (fuel+1) fC a w:=by
    intro jt A4;refine⟨λaB=>absurd aB (VV eA inv),λj aT=>?_⟩;obtain⟨zg,ek,akv,_⟩:=zF.1 aT;rcases(inv.sX j (Array.getElem?_eq_some_iff.1 akv).1).1 zg with pN|nB
    ·refine inv.Qd st aT pN λgE w' aU β' Mr=>bg _ _ _ _ _ _ _ _ _ _ _ ?_ Mr af;rw[length_erase_of_mem pN];have:=length_pos_of_mem pN;omega
    ·rcases mem_cons.1 nB with rfl|nB
     ·exact A4 aT
     ·exfalso;have q0:=inv.ord;simp only[v7,Bool.and_eq_true,List.all_eq_true,Bool.or_eq_true,Bool.not_eq_true',List.contains_eq_mem,decide_eq_false_iff_not,decide_eq_true_eq]at q0;have:=(q0.1 j nB).2.resolve_left (λh=>h jt);have:=HO st inv.pY inv.cl aT i this;rw[inv.N4 (.inr (by simp))]at this;cases this
   have SL:ga.length+l.length=fuel:=by simp at eA;omega
   rcases tJ with⟨h1,D,aj⟩|⟨h1,D,dI,R,bN,σ2,aa,cf,oC,hV,aj⟩|⟨h1,D,M,news,Φ,eX,yf,hX,sD,aj⟩|⟨h1,D,aj⟩
   ·exact VH (i::ga) _ fC ((i,[])::log) _ _ a w I _ Vg (inv.qy st ai (D hdr) (dI:=[]) (R:=[]) (as3 G σ env) (.inl ⟨h1,rfl,rfl⟩)) aj
   ·exact VH (i::ga) _ fC ((i,R)::log) _ _ a w I _ Vg (inv.qy st ai (D hdr) aa (.inr ⟨h1,hV,cf,oC⟩)) aj
   ·refine Qs (D hdr) λaB=>?_;have y6:=inv.Nn st aB ai (λh=>absurd (D hdr) (by obtain⟨_,_,_,q,_⟩:=inv.sj i h;exact q));have an:=inv.rp.want st inv.sz y6;unfold wpOp;simp only[ai];rw[an.1 h1];simp only[if_true];refine .inl (m3.wp (eX cx I β w a.eval inv.rw (inv.rp.ev y6)) ?_);rintro v w' ⟨bN,az,aU,β',D8,kD,e1,hle,U,aji⟩;exact bg _ _ _ _ _ _ _ _ _ _ _ SL (inv.AP st ai (D hdr) aB (yf hdr) hX sD kD e1 hle U aji) (aj bN az D8)
   ·refine Qs (D hdr) λaB=>?_;have y6:=inv.Nn st aB ai (λh=>absurd (D hdr) (by obtain⟨_,_,_,q,_⟩:=inv.sj i h;exact q));have an:=inv.rp.want st inv.sz y6;unfold wpOp;simp only[ai];rw[an.2 h1];simp only[Bool.false_eq_true,if_false];exact bg _ _ _ _ _ _ _ _ _ _ _ SL (inv.AP st ai (D hdr) aB (M:=[]) (news:=[]) (bN:=.undef) (FF log) (as2 env) (by simp) (by simp[au,bc]) inv.rw (cn.refl I) (λ_ _=>rfl) (λ_ _=>rfl)) aj
end any
end
section
def aS(G:ch)(c:Code)(bq:Exit→ah→Y→Prop)(env:ah)(σ:Y):Prop:=
 ∀cx a w,r4 G cx env σ a w→c.wp G.P (λe gE w'=>∃gy az,r4 G cx gy az gE w'∧bq e gy az) a w
def aS.mono{G:ch}{c:Code}{bq C0:Exit→ah→Y→Prop}{env:ah}{σ:Y}(h:aS G c bq env σ)(bV:∀e env σ,bq e env σ→C0 e env σ):aS G c C0 env σ:=
 λcx a w aB=>wp_mono (h cx a w aB) λ_ _ _ ⟨gy,az,h1,D⟩=>⟨gy,az,h1,bV _ _ _ D⟩
section code
variable {G:ch}{bq:Exit→ah→Y→Prop}{env:ah}{σ:Y}
def A.skip(h:bq .normal env σ):aS G .skip bq env σ:=λ_ _ _ aB=>wp_skip ⟨env,σ,aB,h⟩
def A.exit{id:Nat}(h:bq (.exit id) env σ):aS G (.exit id) bq env σ:=λ_ _ _ aB=>wp_exit ⟨env,σ,aB,h⟩
def A.ret(h:bq .ret env σ):aS G .ret bq env σ:=λ_ _ _ aB=>wp_ret ⟨env,σ,aB,h⟩
def qX(next:ah→Y→Prop)(bq:Exit→ah→Y→Prop):Exit→ah→Y→Prop
 |.normal,env,σ=>next env σ
 |e,env,σ=>bq e env σ
def A.seq{x y:Code}(h:aS G x (qX (aS G y bq) bq) env σ):aS G (.seq x y) bq env σ:=by
 intro cx a w aB;refine wp_seq (wp_mono (h cx a w aB) ?_);rintro e gE w' ⟨gy,az,nE,bV⟩;cases e with
 |normal=>exact bV cx gE w' nE
 |_=>exact⟨gy,az,nE,bV⟩
def Ry(id:Nat)(bq:Exit→ah→Y→Prop):Exit→ah→Y→Prop
 |.exit Ed,env,σ=>bif Nat.beq Ed id then bq .normal env σ else bq (.exit Ed) env σ
 |e,env,σ=>bq e env σ
def A.block{id:Nat}{x:Code}(h:aS G x (Ry id bq) env σ):aS G (.block id x) bq env σ:=by
 intro cx a w aB;refine wp_block (wp_mono (h cx a w aB) ?_);rintro e gE w' ⟨gy,az,nE,bV⟩;cases e with
 |exit Ed=>
  simp only[Ry,Exit.inBlock]at bV ⊢;by_cases h:Ed=id
  ·subst h;simp at bV ⊢;exact⟨gy,az,nE,bV⟩
  ·have:Nat.beq Ed id=false:=by rw[←Bool.not_eq_true,Nat.beq_eq];exact h
   simp only[this,cond_false]at bV;rw[if_neg h];exact⟨gy,az,nE,bV⟩
 |_=>exact⟨gy,az,nE,bV⟩
def A.cond{c:Operand}{x y:Code}{b:Bool}(af:env.ev c=.bool b)(bE:b=true→aS G x bq env σ)(bm:b=false→aS G y bq env σ):aS G (.cond c x y) bq env σ:=by
 intro cx a w aB;obtain⟨I,β,h1,D,aj,a1⟩:=aB;have aa:=D.ev c;rw[af]at aa;simp only[au,bc]at aa;exact wp_cond_split aa (λe=>bE e cx a w ⟨I,β,h1,D,aj,a1⟩) (λe=>bm e cx a w ⟨I,β,h1,D,aj,a1⟩)
def A.region{id:Nat}{ops:l7}(Z:wz G.N ops=true)(h:fD G ops ⟨false,[],[]⟩ [] (List.range ops.size) env σ (λenv σ=>bq .normal env σ)):aS G (.region id ops false) bq env σ:=by
 intro cx a w aB;exact wp_region (IA G ops _ _ (W9 Z) _ cx (λenv σ a w hk aB=>⟨env,σ,aB,hk⟩) _ _ _ _ _ _ h aB)
def bY.drew{G:ch}{cx:eW}{I:bs}{β:Nat→Value}{w:World}(h:bY G cx I β σ w):bY G cx I β σ {w with drawn:=w.drawn+1}:=
 {good:=h.good,hM:=h.hM,jg:=h.jg,iV:=h.iV,frame:=h.frame,size:=h.size,tape:=h.tape,os:=h.os,output:=h.output,drawn:=Nat.le_trans h.drawn (Nat.le_succ _),cw:=λd o Z=>aY.heap (w:=w) (w':={w with drawn:=w.drawn+1}) rfl (h.cw d o Z),dA:=h.dA,keep:=h.keep}
def A.any{id:Nat}{ops:l7}(T:su)(es l:dg)(hm:G.P.follows .mixedOrders=true)(X:FO G.N ops ⟨true,T,es⟩ l=true)
    (h:fD G ops ⟨true,T,es⟩ [] l env σ (λenv σ=>bq .normal env σ)):aS G (.region id ops true) bq env σ:=by
  intro cx a w aB;obtain⟨st,q0,sC⟩:=atO X;obtain⟨I,β,h1,D,aj,a1⟩:=aB
  refine wp_region_any hm (ZJ st rfl _ _ cx (λenv σ a w hk aB=>⟨env,σ,aB,hk⟩) ops.size l [] (λ_=>[]) _ [] env σ a _ I β ?_
    {pY:=by simp,ord:=q0,sX:=λi hi=>?_,uH:=λi hi=>by simp at hi,nd:=nodup_nil,pw:=λi hi=>by simp at hi,ps:=λi hi=>by simp at hi,ls:=λi hi=>(sC i).2 hi,
     cl:=λj aT=>?_,sj:=λi hi=>by simp at hi,md:=λi hi=>by simp at hi,rw:=h1.drew,rp:=λt _=>D t,sz:=aj,df:=a1} h)
  ·
    have nd:∀l:dg,v7 ⟨true,T,es⟩ l=true→l.Nodup:=by
      intro l;induction l with
      |nil=>intro _;exact nodup_nil
      |cons i l bg=>
        intro h;simp only[v7,Bool.and_eq_true,List.all_eq_true,Bool.not_eq_true',beq_eq_false_iff_ne]at h;exact nodup_cons.2 ⟨λhi=>(h.1 i hi).1.2 rfl,bg h.2⟩
    have aC:l.Perm (List.range ops.size):=(perm_ext_iff_of_nodup (nd l q0) nodup_range).2 λi=>by rw[List.mem_range];exact(sC i).symm
    simpa using aC.length_eq
  · simp[Array.getD_eq_getD_getElem?,hi,(sC i).1 hi]
  · simp only[Array.getD_eq_getD_getElem?,Array.getElem?_replicate]at aT
    split at aT<;>simp at aT
def cr(G:ch)(env:ah)(σ:Y)(dB:ah)(σ2:Y):Prop:=
 ∀cx I β a w,bY G cx I β σ w→lI I β env a→∃aU β',bY G cx aU β' σ2 w∧lI aU β' dB a
def cr.refl(G:ch)(env:ah)(σ:Y):cr G env σ env σ:=λ_ I β _ _ h b3=>⟨I,β,h,b3⟩
def cr.trans{Ae dB:ah}{sp σ2:Y}(h:cr G env σ Ae sp)(b3:cr G Ae sp dB σ2):cr G env σ dB σ2:=λcx I β a w h1 D=>by
 obtain⟨aU,β',aj,a1⟩:=h cx I β a w h1 D;exact b3 cx aU β' a w aj a1
def cr.rel{dB:ah}{σ2:Y}(h:cr G env σ dB σ2){cx:eW}{a:Act}{w:World}(aB:r4 G cx env σ a w):r4 G cx dB σ2 a w:=by
 obtain⟨I,β,h1,D,aj,a1⟩:=aB;obtain⟨aU,β',bU,dP⟩:=h cx I β a w h1 D;exact⟨aU,β',bU,dP,aj,a1⟩
def asD{c:Code}{dB:ah}{σ2:Y}(h:cr G env σ dB σ2)(k:aS G c bq dB σ2):aS G c bq env σ:=λcx a w aB=>k cx a w (h.rel aB)
def A.loop{c:Code}{α:Type}(fI:α→ah)(fV:α→Y)(Jq:α→Prop)(μ:α→Nat)(lV:α)(bM:Jq lV)(an:cr G env σ (fI lV) (fV lV))
  (step:∀g,Jq g→aS G c (qX (λgy az=>∃ih,Jq ih∧μ ih<μ g∧cr G gy az (fI ih) (fV ih)) bq) (fI g) (fV g)):aS G (.loop c) bq env σ:=by
 intro cx a w aB b k cs
 have key:∀n g a w,μ g=n→Jq g→r4 G cx (fI g) (fV g) a w→∃e gE w',(∃gy az,r4 G cx gy az gE w'∧bq e gy az)∧
   Arrives G.P (lone (b.at a (.code c::.inLoop c::k)) cs w) b k cs e gE w':=by
  intro n;induction n using Nat.strongRecOn with
  |_ n bg=>
   intro g a w aR bu aB;obtain⟨e,AD,Cz,bV,mK⟩:=step g bu cx a w aB b (.inLoop c::k) cs;obtain⟨gy,az,nE,bV⟩:=bV;cases e with
   |normal=>
    obtain⟨ih,yV,bL,D4⟩:=bV;obtain⟨aiS,ail,an5,aeK,abk⟩:=bg (μ ih) (aR▸bL) ih AD Cz rfl yV (D4.rel nE);exact⟨aiS,ail,an5,aeK,.of_steps (Steps.trans mK (.one step_inLoop)) abk⟩
   |exit id=>exact⟨_,AD,Cz,⟨gy,az,nE,bV⟩,.pass (x:=.inLoop c) rfl (λ_ _=>.inl (by simp)) mK⟩
   |goto l=>exact⟨_,AD,Cz,⟨gy,az,nE,bV⟩,.pass (x:=.inLoop c) rfl (λ_ _=>.inl (by simp)) mK⟩
   |ret=>exact⟨_,AD,Cz,⟨gy,az,nE,bV⟩,.pass (x:=.inLoop c) rfl (λ_ _=>.inl (by simp)) mK⟩
   |panic kO=>exact⟨_,AD,Cz,⟨gy,az,nE,bV⟩,.pass (x:=.inLoop c) rfl (λ_ _=>.inl (by simp)) mK⟩
   |outgrown=>exact⟨_,AD,Cz,⟨gy,az,nE,bV⟩,.pass (x:=.inLoop c) rfl (λ_ _=>.inl (by simp)) mK⟩
 obtain⟨e,gE,w',bV,mK⟩:=key _ lV a w rfl bM (an.rel aB);exact⟨e,gE,w',bV,.of_steps (.one step_loop) mK⟩
end code
mutual
def Q.closed:Q→Bool
 |.agg cs=>lT cs
 |.cI cs=>lT cs
 |.fn _ cs=>lT cs
 |.own _=>false
 |.ptr _ _=>false
 |.fR _ _=>false
 |.dr _=>false
 |_=>true
def lT:List Q→Bool
 |[]=>true
 |x::r=>x.closed&&lT r
end
mutual
def au.closed{I:bs}{β:Nat→Value}:∀(a:Q) (v:Value),a.closed=true→au I β a v→bc I a v
 |.e9,_,_,_=>trivial
 |.undef,_,_,h=>by simpa only[au]using h
 |.int _ _,_,_,h=>by simpa only[au]using h
 |.bool _,_,_,h=>by simpa only[au]using h
 |.str _,_,_,h=>by simpa only[au]using h
 |.bf _ _,_,_,h=>by simpa only[au]using h
 |.fO _,_,_,h=>by simpa only[au]using h
 |.c4,_,_,h=>by simpa only[au]using h
 |.nI,_,_,h=>by simpa only[au]using h
 |.eU _ _,_,_,h=>by simpa only[au]using h
 |.ko,_,_,h=>by simpa only[au]using h
 |.dw _,_,_,h=>by simpa only[au]using h
 |.arr _,_,_,h=>by simpa only[au]using h
 |.agg cs,v,af,h=>by
  simp only[bc,au,Q.closed]at h af ⊢;obtain⟨vs,h1,D⟩:=h;exact⟨vs,h1,bW.closed cs _ af D⟩
 |.cI cs,v,af,h=>by
  simp only[bc,au,Q.closed]at h af ⊢;obtain⟨vs,h1,D⟩:=h;exact⟨vs,h1,bW.closed cs _ af D⟩
 |.fn f cs,v,af,h=>by
  simp only[bc,au,Q.closed]at h af ⊢;obtain⟨vs,h1,D⟩:=h;exact⟨vs,h1,bW.closed cs _ af D⟩
 |.own _,_,af,_=>by simp[Q.closed]at af
 |.ptr _ _,_,af,_=>by simp[Q.closed]at af
 |.fR _ _,_,af,_=>by simp[Q.closed]at af
 |.dr _,_,af,_=>by simp[Q.closed]at af
def bW.closed{I:bs}{β:Nat→Value}:∀(a:List Q) (v:dZ),lT a=true→bW I β a v→cV I a v
 |[],_,_,h=>h
 |x::r,v,af,h=>by
  simp only[bW,cV,lT,Bool.and_eq_true]at h af ⊢;obtain⟨aA,bI,h1,D,aj⟩:=h;exact⟨aA,bI,h1,au.closed x aA af.1 D,bW.closed r bI af.2 aj⟩
end
mutual
inductive iw(σ:Y):Q→Q→Prop
 |refl (a:Q):iw σ a a
 |nil (f:Bool):iw σ .c4 (.bf f [])
 |ko:iw σ .ko (.bf false [])
 |full (xs:List (List Q)):iw σ (.bf true xs) (.bf false xs)
 |own {d:Nat} {T:TypeId} {sz k:Nat} {xs:List (List Q)} (h:σ.get d=some (.slice T sz xs k true)):iw σ (.own d) (.bf false xs)
 |win {d:Nat} {T:TypeId} {sz:Nat} {xs:List (List Q)} (h:σ.get d=some (.win T sz xs)):iw σ (.own d) (.bf false xs)
 |kf {d:Nat} {K E:TypeId} {bH:List (Q×Q)} (h:σ.get d=some (.kf K E bH)):iw σ (.dr d) (.dw bH)
 |agg {cs ow:List Q} (h:jE σ cs ow):iw σ (.agg cs) (.agg ow)
 |cI {cs ow:List Q} (h:jE σ cs ow):iw σ (.cI cs) (.cI ow)
 |fn {f:Nat} {cs ow:List Q} (h:jE σ cs ow):iw σ (.fn f cs) (.fn f ow)
 |e9 (a:Q):iw σ a .e9
 |eU {f:Nat} {a:Q} {cs:List Q} (h:iw σ a (.fn f cs)) (af:lT cs=true):iw σ a (.eU f cs)
inductive jE(σ:Y):List Q→List Q→Prop
 |nil:jE σ [] []
 |cons {a b:Q} {r s:List Q} (h:iw σ a b) (t:jE σ r s):jE σ (a::r) (b::s)
end
def Ih{I:bs}{b:Nat}:∀(cs:List Q) (o:Nat) (vs:dZ),cV I cs vs→(∀(j:Nat) v,vs[j]?=some v→I b ((o+j:Nat))=some v)→k4 I b cs o
 |[],_,_,_,_=>trivial
 |x::r,o,vs,h,g9=>by
  simp only[cV]at h;obtain⟨aA,bI,rfl,h1,D⟩:=h;refine⟨⟨aA,by simpa using g9 0 aA rfl,h1⟩,Ih r (o+1) bI D λj v aa=>?_⟩;have:=g9 (j+1) v (by simpa using aa)
  rwa [show o+(j+1)=o+1+j from by omega]at this
def ox{I:bs}:∀(xs bx:List Q) (vs:dZ),cV I (xs++bx) vs↔∃bI ws,vs=bI++ws∧cV I xs bI∧cV I bx ws
 |[],bx,vs=>by
  simp only[nil_append,cV];exact⟨λh=>⟨[],vs,rfl,rfl,h⟩,λ⟨bI,ws,h1,D,aj⟩=>by subst D;simp at h1;subst h1;exact aj⟩
 |x::r,bx,vs=>by
  simp only[cons_append,cV];constructor
  ·rintro⟨aA,bI,rfl,h1,D⟩;obtain⟨s7,ws,rfl,aj,a1⟩:=(ox r bx bI).1 D;exact⟨aA::s7,ws,rfl,⟨aA,s7,rfl,h1,aj⟩,a1⟩
  ·rintro⟨bI,ws,rfl,⟨aA,s7,rfl,h1,aj⟩,a1⟩;exact⟨aA,s7++ws,rfl,h1,(ox r bx _).2 ⟨s7,ws,rfl,aj,a1⟩⟩
def qa{I:bs}:∀(xs:List Q) (vs:dZ),cV I xs vs→vs.length=xs.length
 |[],vs,h=>by simp only[cV]at h;subst h;rfl
 |x::r,vs,h=>by
  simp only[cV]at h;obtain⟨aA,bI,rfl,_,D⟩:=h;simp[qa r bI D]
def sx{I:bs}{β:Nat→Value}:∀(xs:List Q) (vs:dZ),bW I β xs vs→vs.length=xs.length
 |[],vs,h=>by simp only[bW]at h;subst h;rfl
 |x::r,vs,h=>by
  simp only[bW]at h;obtain⟨aA,bI,rfl,_,D⟩:=h;simp[sx r bI D]
def zr{I:bs}{b:Nat}:∀(xs:List (List Q)) (o:Nat) (vs:dZ),cV I xs.flatten vs→(∀(j:Nat) v,vs[j]?=some v→I b ((o+j:Nat))=some v)→jC I b xs o
 |[],_,_,_,_=>trivial
 |e::r,o,vs,h,g9=>by
  simp only[flatten_cons]at h;obtain⟨bI,ws,rfl,h1,D⟩:=(ox _ _ _).1 h;have aH:=qa _ _ h1
  refine⟨Ih e o bI h1 λj v aa=>g9 j v (by
    rw[List.getElem?_append_left (by rcases Nat.lt_or_ge j bI.length with b3|b3;exact b3;rw[List.getElem?_eq_none b3]at aa;cases aa)];exact aa),
   zr r (o+e.length) ws D λj v aa=>?_⟩
  have:=g9 (bI.length+j) v (by rw[List.getElem?_append_right (by omega)];simpa using aa)
  rwa [aH,←Nat.add_assoc]at this
section sealing
variable {G:ch}{cx:eW}{I:bs}{β:Nat→Value}{σ:Y}{w:World}
def bY.slice(h:bY G cx I β σ w){d:Nat}{T:TypeId}{sz k:Nat}{xs:List (List Q)}(Z:σ.get d=some (.slice T sz xs k true)){v:Value}(aa:au I β (.own d) v):
  au I β (.bf false xs) v:=by
 simp only[au]at aa;obtain⟨rfl,X⟩:=aa;have:=h.cw d _ Z;simp only[aY]at this;rcases this with h1|⟨h1,rfl,_⟩|⟨b,aO,arr,h1,D,aj,a1,bU,dP,fz,ka,iy,oT,tv⟩
 ·rw[h1]at X;simp[iD]at X
 ·rw[h1];simp only[au,bc];exact⟨none,0,rfl,by simp,by simp[maxLen],by simp,by simp⟩
 ·rw[h1];simp only[au,bc];refine⟨_,aO,rfl,D,aj,by simp,.inr ⟨b,0,rfl,?_⟩⟩;refine zr xs 0 _ dP λj v aa=>?_;rw[Nat.zero_add];rw[getElem?_take]at aa;split at aa
  ·rename_i bL;rw[iy trivial j bL];simpa using aa
  ·cases aa
def bY.win(h:bY G cx I β σ w){d:Nat}{T:TypeId}{sz:Nat}{xs:List (List Q)}(Z:σ.get d=some (.win T sz xs)){v:Value}(aa:au I β (.own d) v):
  au I β (.bf false xs) v:=by
 simp only[au]at aa;obtain⟨rfl,X⟩:=aa;have:=h.cw d _ Z;simp only[aY]at this;rcases this with h1|⟨h1,rfl⟩|⟨b,gl,aO,arr,h1,D,aj,a1,bU,dP,fz,ka,iy⟩
 ·rw[h1]at X;simp[iD]at X
 ·rw[h1];simp only[au,bc];exact⟨none,0,rfl,by simp,by simp[maxLen],by simp,by simp⟩
 ·rw[h1];simp only[au,bc];exact⟨_,aO,rfl,D,aj,by simp,.inr ⟨b,gl,rfl,dP⟩⟩
mutual
def iw.rep(an:bY G cx I β σ w):∀{a r:Q},iw σ a r→∀v,au I β a v→au I β r v
 |_,_,.ko,v,h=>by
  simp only[au,bc]at h ⊢;obtain⟨a,c,aB,af⟩:=h;exact⟨some a,c,aB,by simp,af,by simp,by simp⟩
 |_,_,.refl _,_,h=>h
 |_,_,.eU X af,v,h=>by
  have h1:=iw.rep an X v h;simp only[au,bc]at h1 ⊢;obtain⟨vs,D,aj⟩:=h1;exact⟨vs,D,bW.closed _ _ af aj⟩
 |_,_,.nil f,v,h=>by
  simp only[au,bc]at h ⊢;exact⟨none,0,h,by simp,by simp[maxLen],by simp,by simp⟩
 |_,_,.full xs,v,h=>by
  simp only[au,bc]at h ⊢;obtain⟨a,c,h1,D,aj,_,a1⟩:=h;exact⟨a,c,h1,D,aj,by simp,a1⟩
 |_,_,.own Z,v,h=>an.slice Z h
 |_,_,.win Z,v,h=>an.win Z h
 |_,_,.kf Z,v,h=>by
  simp only[au]at h;obtain⟨rfl,hm⟩:=h;have:=an.cw _ _ Z;simp only[aY]at this;rcases this with q|⟨r,es,clock,ak,ar,aM,_,aK⟩
  ·rw[q]at hm;simp[mJ]at hm
  ·rw[ak];simp only[au,bc];exact⟨r,es,clock,rfl,ar,aM,aK⟩
 |_,_,.agg X,v,h=>by
  simp only[au]at h ⊢;obtain⟨vs,h1,D⟩:=h;exact⟨vs,h1,jE.rep an X _ D⟩
 |_,_,.cI X,v,h=>by
  simp only[au]at h ⊢;obtain⟨vs,h1,D⟩:=h;exact⟨vs,h1,jE.rep an X _ D⟩
 |_,_,.fn X,v,h=>by
  simp only[au]at h ⊢;obtain⟨vs,h1,D⟩:=h;exact⟨vs,h1,jE.rep an X _ D⟩
 |_,_,.e9 _,v,h=>by simp[au]
def jE.rep(an:bY G cx I β σ w):∀{a r:List Q},jE σ a r→∀vs,bW I β a vs→bW I β r vs
 |_,_,.nil,_,h=>h
 |_,_,.cons X bE,vs,h=>by
  simp only[bW]at h ⊢;obtain⟨aA,bI,h1,D,aj⟩:=h;exact⟨aA,bI,h1,iw.rep an X aA D,jE.rep an bE bI aj⟩
end
def bY.sub{σ2:Y}(h:bY G cx I β σ w)(X:∀d o,σ2.get d=some o→σ.get d=some o):bY G cx I β σ2 w:=
  {h with cw:=λd o e=>h.cw d o (X d o e),
          dA:=λd dh e cB=>by
            obtain⟨o,e⟩:=Option.isSome_iff_exists.1 e;obtain⟨hx,cB⟩:=Option.isSome_iff_exists.1 cB;exact h.dA d dh (by rw[X d o e];rfl) (by rw[X dh hx cB];rfl)}
def cc.vN:cc→cc
 |.slice T sz xs _ _=>.slice T sz xs xs.length true
 |.map K E bH=>.kf K E bH
 |o=>o
def Y.freeze(c5:dg):Y→Y
 |[]=>[]
 |(d,o)::r=>(d,bif c5.contains d then o.vN else o)::Y.freeze c5 r
def asN(c5:dg):∀(σ:Y) (d:Nat),(Y.freeze c5 σ).get d=(σ.get d).map λo=>if d∈c5 then o.vN else o
 |[],d=>rfl
 |(k,o)::r,d=>by
  simp only[Y.freeze,asw,asN c5 r d];split
  ·rename_i h;subst h;by_cases hm:k∈c5<;>simp[hm]
  ·rfl
def aY.Mq{aU:bs}{d b:Nat}{o:cc}(hle:cn I aU)(jf:∀aP o,aP≠b→aU aP o=I aP o)(SM:∀aP∈c2 (β d),aP≠b)(gD:aY cx I β w d o):aY cx aU β w d o:=by
 have o0:∀aP,b1 (β d)=some aP→aP≠b:=λaP ha=>SM aP (j8 ha);cases o with
 |b9 cU=>
  simp only[aY]at gD ⊢;rcases gD with q|⟨X,ak,ar⟩
  ·exact .inl q
  ·exact .inr ⟨X,ak,ar.go hle λaP ha=>⟨λ_=>rfl,λo=>jf aP o (SM aP (by rw[ak];exact ha)),id⟩⟩
 |gP T xs t=>
  simp only[aY]at gD ⊢;rcases gD with q|⟨aP,aO,arr,ak,ar,aM,aK,be,bJ,b8,cT,dD,eB,fm⟩
  ·exact .inl q
  ·exact .inr ⟨aP,aO,arr,ak,ar,aM,aK,be,nT hle _ _ bJ,b8,cT,dD,λo=>by rw[jf aP o (o0 aP (by rw[ak];rfl))];exact eB o,fm⟩
 |vec T xs=>
  simp only[aY]at gD ⊢;rcases gD with q|⟨aP,arr,ak,ar,aM,aK,be⟩
  ·exact .inl q
  ·exact .inr ⟨aP,arr,ak,ar,aM,λo=>by rw[jf aP o (o0 aP (by rw[ak];rfl))];exact aK o,be⟩
 |jP es clock bH seen=>
  simp only[aY]at gD ⊢;rcases gD with q|⟨r,fx,ak,ar,aM,aK,be,bJ,b8⟩
  ·exact .inl q
  ·exact .inr ⟨r,fx,ak,ar,hle _ _ _ aM,mS hle _ _ aK,be,λo=>by rw[jf r o (o0 r (by rw[ak];rfl))];exact bJ o,b8⟩
 |eO T e n du=>
  simp only[aY]at gD ⊢;rcases gD with q|⟨aP,aO,arr,X,ak,ar,aM,aK,be,bJ,b8,cT,dD,eB⟩
  ·exact .inl q
  ·exact .inr ⟨aP,aO,arr,X,ak,ar,aM,aK,be,bJ,b8,cT,λo=>by rw[jf aP o (o0 aP (by rw[ak];rfl))];exact dD o,eB⟩
 |fc K E e keys du iK=>
  simp only[aY]at gD ⊢;rcases gD with q|⟨r,es,clock,X,cv,ak,ar,aM,aK,be,bJ,b8,cT⟩
  ·exact .inl q
  ·exact .inr ⟨r,es,clock,X,cv,ak,ar,aM,aK,be.mono hle,λo=>by rw[jf r o (o0 r (by rw[ak];rfl))];exact bJ o,b8,cT⟩
 |cells T cs=>
  simp only[aY]at gD ⊢;rcases gD with q|⟨aP,oJ,ak,ar,aM,aK,be⟩
  ·exact .inl q
  ·exact .inr ⟨aP,oJ,ak,ar,tW hle (hp.refl _) _ _ aM,λo=>by rw[jf aP o (o0 aP (by rw[ak];rfl))];exact aK o,be⟩
 |slice aV jk l6 dS aiZ=>
  simp only[aY]at gD ⊢;rcases gD with q|q|⟨aP,p9,oJ,ak,ar,aM,aK,be,bJ,b8,cT,dD,eB,fm⟩
  ·exact .inl q
  ·exact .inr (.inl q)
  ·have cb:=o0 aP (by rw[ak];rfl);exact .inr (.inr ⟨aP,p9,oJ,ak,ar,aM,aK,be,nT hle _ _ bJ,b8,cT,λhz o ai=>by rw[jf aP o cb];exact dD hz o ai,λo ai=>by rw[jf aP o cb];exact eB o ai,fm⟩)
 |win aV jk l6=>
  simp only[aY]at gD ⊢;rcases gD with q|q|⟨aP,hx,p9,oJ,ak,ar,aM,aK,be,bJ,b8,cT,dD⟩
  ·exact .inl q
  ·exact .inr (.inl q)
  ·have cb:=o0 aP (by rw[ak];rfl);exact .inr (.inr ⟨aP,hx,p9,oJ,ak,ar,aM,aK,be,zq hle _ _ _ bJ,b8,λhz o ai=>by rw[jf aP o cb];exact cT hz o ai,dD⟩)
 |map K E bH=>
  simp only[aY]at gD ⊢;rcases gD with q|⟨r,es,clock,ak,ar,aM,aK,be⟩
  ·exact .inl q
  ·exact .inr ⟨r,es,clock,ak,ar,mS hle _ _ aM,λo=>by rw[jf r o (o0 r (by rw[ak];rfl))];exact aK o,be⟩
 |kf K E bH=>
  simp only[aY]at gD ⊢;rcases gD with q|⟨r,es,clock,ak,ar,aM,aK⟩
  ·exact .inl q
  ·exact .inr ⟨r,es,clock,ak,hle _ _ _ ar,mS hle _ _ aM,aK⟩
 |gz es clock K E bH=>
  simp only[aY]at gD ⊢;rcases gD with q|⟨r,ak,ar,aM,aK,be⟩
  ·exact .inl q
  ·exact .inr ⟨r,ak,ar,mS hle _ _ aM,λo=>by rw[jf r o (o0 r (by rw[ak];rfl))];exact aK o,be⟩
 |iter cz q9 kW seen=>
  simp only[aY]at gD ⊢;rcases gD with q|⟨r,fx,ak,ar,aM,aK,be⟩
  ·exact .inl q
  ·exact .inr ⟨r,fx,ak,ar,aM,λo=>by rw[jf r o (o0 r (by rw[ak];rfl))];exact aK o,be⟩
 |hdr cz n=>exact gD
def bY.abl(h:bY G cx I β σ w)(e:Nat):∃aU,cn I aU∧bY G cx aU β (σ.freeze [e]) w:=by
 cases he:σ.get e with
 |none=>
  refine⟨I,cn.refl I,h.sub λd o Z=>?_⟩;rw[asN]at Z;cases dH:σ.get d with
  |none=>rw[dH]at Z;cases Z
  |some hx=>
   rw[dH]at Z;have:d∉[e]:=by intro hm;simp at hm;subst hm;rw[he]at dH;cases dH
   simp only[Option.map_some,this,if_false]at Z;exact Z
 |some o=>
  have sY:(∀hx,o.vN=hx→hx=o)→∃aU,cn I aU∧bY G cx aU β (σ.freeze [e]) w:=by
   intro yU;refine⟨I,cn.refl I,h.sub λd hx Z=>?_⟩;rw[asN]at Z;cases dH:σ.get d with
   |none=>rw[dH]at Z;cases Z
   |some fW=>
    rw[dH]at Z;simp only[Option.map_some,Option.some.injEq]at Z;split at Z
    ·rename_i hm;simp at hm;subst hm;rw[he]at dH;cases dH;rw[yU hx Z]
    ·rw[Z]
  cases o with
  |cells T cs=>exact sY (λ_ e=>e.symm)
  |kf K E bH=>exact sY (λ_ e=>e.symm)
  |gz es clock K E bH=>exact sY (λ_ e=>e.symm)
  |iter cz q9 kW seen=>exact sY (λ_ e=>e.symm)
  |hdr cz n=>exact sY (λ_ e=>e.symm)
  |win T sz xs=>exact sY (λ_ e=>e.symm)
  |b9 cU=>exact sY (λ_ e=>e.symm)
  |eO T e n du=>exact sY (λ_ e=>e.symm)
  |gP T xs t=>exact sY (λ_ e=>e.symm)
  |vec T xs=>exact sY (λ_ e=>e.symm)
  |jP es clock bH seen=>exact sY (λ_ e=>e.symm)
  |fc K E e keys du iK=>exact sY (λ_ e=>e.symm)
  |map K E bH=>
   have ai:=h.cw e _ he;simp only[aY]at ai;rcases ai with h1|⟨r,es,clock,h1,D,aj,a1,bU,dP⟩
   ·refine⟨I,cn.refl I,{h with cw:=λd o Z=>?_,dA:=λd dh Z dH=>?_}⟩
    ·rw[asN]at Z;cases dH:σ.get d with
     |none=>rw[dH]at Z;cases Z
     |some fW=>
      rw[dH]at Z;simp only[Option.map_some,Option.some.injEq]at Z;subst Z;split
      ·rename_i hm;simp at hm;subst hm;rw[he]at dH;cases dH;exact .inl h1
      ·exact h.cw d fW dH
    ·rw[asN,Option.isSome_map]at Z dH;exact h.dA d dh Z dH
   ·let aU:bs:=λb o=>if b=r∧o=none then some (pU es clock)else I b o
    have hle:cn I aU:=λb o v aa=>by
     show(if b=r∧o=none then some (pU es clock)else I b o)=some v;split
     ·rename_i cA;obtain⟨rfl,rfl⟩:=cA;rw[a1 none]at aa;cases aa
     ·exact aa
    have jf:∀b o,b≠r→aU b o=I b o:=λb o cb=>by
     show(if b=r∧o=none then some (pU es clock)else I b o)=_;rw[if_neg (λcA=>cb cA.1)]
    have A1:b1 (β e)=some r:=by rw[h1];rfl
    refine⟨aU,hle,{good:=λaP o v aa=>?_,hM:=λaP v aa=>?_,jg:=λaP o v aa=>hle _ _ _ (h.jg _ _ _ aa),iV:=λaP U aR o=>?_,frame:=h.frame,size:=h.size,tape:=h.tape,os:=h.os,output:=h.output,drawn:=h.drawn,cw:=λd o Z=>?_,dA:=λd dh Z dH=>?_,keep:=h.keep}⟩
    ·refine h.good aP o v ?_
     change (if aP=r∧some o=none then some (pU es clock)else I aP o)=some v at aa
     rwa [if_neg (by simp)]at aa
    ·change (if aP=r∧none=none then some (pU es clock)else I aP none)=some v at aa
     split at aa
     ·rename_i cA;obtain⟨rfl,_⟩:=cA;exact⟨es,clock,D,(Option.some.inj aa).symm⟩
     ·exact h.hM aP v aa
    ·have cb:aP≠r:=λe=>by
      subst e;rcases bU with q|q
      ·omega
      ·exact aR q
     rw[jf aP o cb];exact h.iV aP U aR o
    ·rw[asN]at Z;cases dH:σ.get d with
     |none=>rw[dH]at Z;cases Z
     |some fW=>
      rw[dH]at Z;simp only[Option.map_some,Option.some.injEq]at Z;subst Z;by_cases js:d=e
      ·subst js;rw[he]at dH;cases dH;simp only[List.mem_singleton,if_true,cc.vN,aY];exact .inr ⟨r,es,clock,h1,by show(if r=r∧none=none then some (pU es clock)else I r none)=_;rw[if_pos ⟨rfl,rfl⟩],mS hle _ _ aj,bU,dP⟩
      ·have hm:d∉[e]:=by simpa using js
       rw[if_neg hm];refine(h.cw d fW dH).Mq hle jf λaP ha cB=>?_;subst cB;exact h.dA d e (by rw[dH];rfl) (by rw[he];rfl) js aP ha (j8 A1)
    ·rw[asN,Option.isSome_map]at Z dH;exact h.dA d dh Z dH
  |slice T sz xs k c5=>
   have ai:=h.cw e _ he;simp only[aY]at ai;rcases ai with h1|⟨h1,rfl,rfl⟩|⟨b,aO,arr,h1,D,aj,a1,bU,dP,fz,ka,iy,oT,tv⟩
   ·refine⟨I,cn.refl I,{h with cw:=λd o Z=>?_,dA:=λd dh Z dH=>?_}⟩
    ·rw[asN]at Z;cases dH:σ.get d with
     |none=>rw[dH]at Z;cases Z
     |some fW=>
      rw[dH]at Z;simp only[Option.map_some,Option.some.injEq]at Z;subst Z;split
      ·rename_i hm;simp at hm;subst hm;rw[he]at dH;cases dH;exact .inl h1
      ·exact h.cw d fW dH
    ·rw[asN,Option.isSome_map]at Z dH;exact h.dA d dh Z dH
   ·refine⟨I,cn.refl I,{h with cw:=λd o Z=>?_,dA:=λd dh Z dH=>?_}⟩
    ·rw[asN]at Z;cases dH:σ.get d with
     |none=>rw[dH]at Z;cases Z
     |some fW=>
      rw[dH]at Z;simp only[Option.map_some,Option.some.injEq]at Z;subst Z;split
      ·rename_i hm;simp at hm;subst hm;rw[he]at dH;cases dH;exact .inr (.inl ⟨h1,rfl,rfl⟩)
      ·exact h.cw d fW dH
    ·rw[asN,Option.isSome_map]at Z dH;exact h.dA d dh Z dH
   ·let aU:bs:=I.on λaP o=>if aP=b∧o<xs.length*sz then arr[o]? else I aP o
    have hle:cn I aU:=λaP o v aa=>by
     cases o with
     |none=>exact aa
     |some o=>
     show(if aP=b∧o<xs.length*sz then arr[o]? else I aP o)=some v;split
     ·rename_i cA;obtain⟨rfl,bL⟩:=cA;have af:=h.good aP o v aa;simp only[World.cell?,a1]at af;simpa using af
     ·exact aa
    have jf:∀aP o,aP≠b→aU aP o=I aP o:=λaP o cb=>by
     cases o with
     |none=>rfl
     |some o=>
     show(if aP=b∧o<xs.length*sz then arr[o]? else I aP o)=_;rw[if_neg (λcA=>cb cA.1)]
    have A1:b1 (β e)=some b:=by rw[h1];rfl
    refine⟨aU,hle,{good:=λaP o v aa=>?_,hM:=h.hM,jg:=λaP o v aa=>hle _ _ _ (h.jg _ _ _ aa),iV:=λaP U aR o=>?_,frame:=h.frame,size:=h.size,tape:=h.tape,os:=h.os,output:=h.output,drawn:=h.drawn,cw:=λd o Z=>?_,dA:=λd dh Z dH=>?_,keep:=h.keep}⟩
    ·change (if aP=b∧o<xs.length*sz then arr[o]? else I aP o)=some v at aa
     split at aa
     ·rename_i cA;obtain⟨rfl,bL⟩:=cA;simp only[World.cell?,a1];simpa using aa
     ·exact h.good aP o v aa
    ·have cb:aP≠b:=λe=>by
      subst e;rcases tv with q|q
      ·omega
      ·exact aR q
     rw[jf aP o cb];exact h.iV aP U aR o
    ·rw[asN]at Z;cases dH:σ.get d with
     |none=>rw[dH]at Z;cases Z
     |some fW=>
      rw[dH]at Z;simp only[Option.map_some,Option.some.injEq]at Z;subst Z;by_cases js:d=e
      ·subst js;rw[he]at dH;cases dH;simp only[List.mem_singleton,if_true,cc.vN,aY];refine .inr (.inr ⟨b,aO,arr,h1,D,aj,a1,bU,nT hle _ _ dP,fz,Nat.le_refl _,λ_ o ai=>?_,λo ai=>?_,tv⟩)
       ·show(if b=b∧o<xs.length*sz then arr[o]? else I b o)=_;rw[if_pos ⟨rfl,ai⟩]
       ·show(if b=b∧o<xs.length*sz then arr[o]? else I b o)=_;rw[if_neg (λcA=>by omega)];exact oT o (Nat.le_trans (Nat.mul_le_mul_right _ ka) ai)
      ·have hm:d∉[e]:=by simpa using js
       rw[if_neg hm]
       have o0:∀aP∈c2 (β d),aP≠b:=λaP ha cB=>by
        subst cB;exact h.dA d e (by rw[dH];rfl) (by rw[he];rfl) js aP ha (j8 A1)
       exact(h.cw d fW dH).Mq hle jf o0
    ·rw[asN,Option.isSome_map]at Z dH;exact h.dA d dh Z dH
def bY.Ie(h:bY G cx I β σ w):∀c5:dg,∃aU,cn I aU∧bY G cx aU β (σ.freeze c5) w:=by
 intro c5;induction c5 generalizing σ I with
 |nil=>
  refine⟨I,cn.refl I,h.sub λd o Z=>?_⟩;rw[asN]at Z;simpa using Z
 |cons e r bg=>
  obtain⟨O1,akk,h1⟩:=h.abl e;obtain⟨CW,GS,D⟩:=bg h1;refine⟨CW,akk.trans GS,D.sub λd o Z=>?_⟩;rw[asN]at Z;rw[asN,asN];cases dH:σ.get d with
  |none=>rw[dH]at Z;cases Z
  |some fW=>
   rw[dH]at Z;simp only[Option.map_some,Option.some.injEq]at Z ⊢;rw[←Z];have ajX:fW.vN.vN=fW.vN:=by cases fW<;>rfl
   by_cases js:d=e
   ·subst js;by_cases aB:d∈r<;>simp[aB,ajX]
   ·by_cases aB:d∈r<;>simp[aB,js]
end sealing
def cr.freeze(G:ch)(env:ah)(σ:Y)(c5:dg):cr G env σ env (σ.freeze c5):=λcx I β a w h b3=>by
 obtain⟨aU,hle,D⟩:=h.Ie c5;exact⟨aU,β,D,b3.mono hle (hp.refl β)⟩
def cr.drop{G:ch}{env dB:ah}{σ σ2:Y}(he:∀p∈dB,iw σ (env.get p.1) p.2)(X:∀p∈σ2,σ.get p.1=some p.2):cr G env σ dB σ2:=λcx I β a w h b3=>by
 have abm:∀(l:ah) t,l.get t=.e9∨∃p∈l,p.1=t∧l.get t=p.2:=by
  intro l;induction l with
  |nil=>exact λ_=>.inl rfl
  |cons x r bg=>
   intro t;obtain⟨k,v⟩:=x;rw[asI];split
   ·rename_i hk;exact .inr ⟨(k,v),by simp,hk,rfl⟩
   ·rcases bg t with h|⟨p,h1,D,aj⟩
    ·exact .inl h
    ·exact .inr ⟨p,by simp[h1],D,aj⟩
 have abn:∀(l:Y) d o,l.get d=some o→∃p∈l,p.1=d∧p.2=o:=by
  intro l;induction l with
  |nil=>intro d o h;simp[Y.get]at h
  |cons x r bg=>
   intro d o h;obtain⟨k,v⟩:=x;rw[asw]at h;split at h
   ·rename_i hk;injection h with h;exact⟨(k,v),by simp,hk,h⟩
   ·obtain⟨p,h1,D,aj⟩:=bg d o h;exact⟨p,by simp[h1],D,aj⟩
 refine⟨I,β,h.sub λd o Z=>?_,λt=>?_⟩
 ·obtain⟨p,h1,D,aj⟩:=abn σ2 d o Z;rw[←D,←aj];exact X p h1
 ·rcases abm dB t with h1|⟨p,h1,D,aj⟩
  ·rw[h1];simp[au]
  ·rw[aj];subst D;exact(he p h1).rep h _ (b3 p.1)
def asT{G:ch}{c:Code}{bq:Exit→ah→Y→Prop}{env:ah}{σ:Y}(h:∀cx a w,r4 G cx env σ a w→c.wp G.P (λe gE w'=>∃gy az,r4 G cx gy az gE w'∧bq e gy az) a w):aS G c bq env σ:=h
def aS.use{G:ch}{c:Code}{bq:Exit→ah→Y→Prop}{env:ah}{σ:Y}(h:aS G c bq env σ)(cx:eW)(a:Act)(w:World)(aB:r4 G cx env σ a w):c.wp G.P (λe gE w'=>∃gy az,r4 G cx gy az gE w'∧bq e gy az) a w:=h cx a w aB
attribute [irreducible] aS
end
section
mutual
def Q.cN(r:Nat→Nat):Q→Q
 |.agg cs=>.agg (q1 r cs)
 |.cI cs=>.cI (q1 r cs)
 |.fn f cs=>.fn f (q1 r cs)
 |.own d=>.own (r d)
 |.ptr d o=>.ptr (r d) o
 |.fR k d=>.fR k (r d)
 |.dr d=>.dr (r d)
 |x=>x
def q1(r:Nat→Nat):List Q→List Q
 |[]=>[]
 |x::t=>x.cN r::q1 r t
end
mutual
def Oh{I:bs}{β β':Nat→Value}{r:Nat→Nat}{p:Nat→Bool}(h:∀d,p d=false→β' (r d)=β d):∀(x:Q) (v:Value),x.refs p=false→au I β x v→au I β' (x.cN r) v
 |.e9,_,_,_=>trivial
 |.undef,v,_,q=>by simp only[au,Q.cN]at q ⊢;exact q
 |.int _ _,v,_,q=>by simp only[au,Q.cN]at q ⊢;exact q
 |.bool _,v,_,q=>by simp only[au,Q.cN]at q ⊢;exact q
 |.str _,v,_,q=>by simp only[au,Q.cN]at q ⊢;exact q
 |.bf _ _,v,_,q=>by simp only[au,Q.cN]at q ⊢;exact q
 |.fO _,v,_,q=>by simp only[au,Q.cN]at q ⊢;exact q
 |.c4,v,_,q=>by simp only[au,Q.cN]at q ⊢;exact q
 |.nI,v,_,q=>by simp only[au,Q.cN]at q ⊢;exact q
 |.eU _ _,v,_,q=>by simp only[au,Q.cN]at q ⊢;exact q
 |.ko,v,_,q=>by simp only[au,Q.cN]at q ⊢;exact q
 |.dw _,v,_,q=>by simp only[au,Q.cN]at q ⊢;exact q
 |.arr _,v,_,q=>by simp only[au,Q.cN]at q ⊢;exact q
 |.agg cs,v,e,q=>by
   simp only[au,Q.cN,Q.refs]at q e ⊢;obtain⟨vs,h1,D⟩:=q;exact⟨vs,h1,zI h cs _ e D⟩
 |.cI cs,v,e,q=>by
   simp only[au,Q.cN,Q.refs]at q e ⊢;obtain⟨vs,h1,D⟩:=q;exact⟨vs,h1,zI h cs _ e D⟩
 |.fn f cs,v,e,q=>by
   simp only[au,Q.cN,Q.refs]at q e ⊢;obtain⟨vs,h1,D⟩:=q;exact⟨vs,h1,zI h cs _ e D⟩
 |.own d,v,e,q=>by
   simp only[au,Q.cN,Q.refs]at q e ⊢;rw[h d e];exact q
 |.dr d,v,e,q=>by
   simp only[au,Q.cN,Q.refs]at q e ⊢;rw[h d e];exact q
 |.ptr d o,v,e,q=>by
   simp only[au,Q.cN,Q.refs]at q e ⊢;rw[h d e];exact q
 |.fR k d,v,e,q=>by
   simp only[au,Q.cN,Q.refs]at q e ⊢;rw[h d e];exact q
def zI{I:bs}{β β':Nat→Value}{r:Nat→Nat}{p:Nat→Bool}(h:∀d,p d=false→β' (r d)=β d):∀(x:List Q) (v:dZ),o6 p x=false→bW I β x v→bW I β' (q1 r x) v
 |[],_,_,q=>q
 |x::xs,v,e,q=>by
   simp only[bW,q1,o6,Bool.or_eq_false_iff]at q e ⊢;obtain⟨aA,bI,h1,D,aj⟩:=q;exact⟨aA,bI,h1,Oh h x aA e.1 D,zI h xs bI e.2 aj⟩
end
def q2(r:Nat→Nat):Option (ku×Nat)→Option (ku×Nat)
 |none=>none
 |some (i,t)=>some (i,r t)
def cc.cN(r:Nat→Nat):cc→cc
 |.cells T cs=>.cells T (q1 r cs)
 |.iter cz q9 kW seen=>.iter (r cz) q9 kW seen
 |.hdr cz n=>.hdr (r cz) n
 |.eO T e n h=>.eO T (r e) n (q2 r h)
 |.fc K E e keys h iK=>.fc K E (r e) keys (q2 r h) iK
 |.gP T xs t=>.gP T xs (r t)
 |o=>o
def ah.cN(r:Nat→Nat)(env:ah):ah:=env.map λp=>(p.1,p.2.cN r)
def Y.cN(r:Nat→Nat)(σ:Y):Y:=σ.map λp=>(r p.1,p.2.cN r)
def atD(r:Nat→Nat):∀(env:ah) t,(env.cN r).get t=(env.get t).cN r
 |[],t=>by simp[ah.cN,ah.get,Q.cN]
 |(k,v)::l,t=>by
  have:=atD r l t;simp only[ah.cN]at this ⊢;simp only[map_cons,asI];split
  ·rfl
  ·exact this
def zV(r s:Nat→Nat)(ids:dg)(env:ah)(σ:Y):Bool:=
 env.clean (λd=>!Nat.beq (s (r d)) d)&&σ.clean (λd=>!Nat.beq (s (r d)) d)&&ids.all (λd=>Nat.beq (s d) d)
def cr.cN{G:ch}{env:ah}{σ:Y}(r s:Nat→Nat)(jv:zV r s G.ids env σ=true):cr G env σ (env.cN r) (σ.cN r):=λcx I β a w h b3=>by
 simp only[zV,Bool.and_eq_true,List.all_eq_true,Nat.beq_eq]at jv;obtain⟨⟨h1,D⟩,aj⟩:=jv
 have U:∀d,(!Nat.beq (s (r d)) d)=false→(λx=>β (s x)) (r d)=β d:=λd Z=>by
  have:s (r d)=d:=by simpa using Z
  show β (s (r d))=β d;rw[this]
 have obj:∀d o,(σ.cN r).get d=some o→∃d0 gl,σ.get d0=some gl∧d=r d0∧o=gl.cN r∧s (r d0)=d0∧nV (λd=>!Nat.beq (s (r d)) d) gl=false:=by
  intro d o Z
  have key:∀(l:Y),l.clean (λd=>!Nat.beq (s (r d)) d)=true→(Y.cN r l).get d=some o→∃d0 gl,l.get d0=some gl∧d=r d0∧o=gl.cN r∧s (r d0)=d0∧nV (λd=>!Nat.beq (s (r d)) d) gl=false:=by
   intro l;induction l with
   |nil=>intro _ h;simp[Y.cN,Y.get]at h
   |cons x t bg=>
    obtain⟨k,v⟩:=x;intro af h;simp only[Y.clean,Bool.and_eq_true,Bool.not_eq_true',Bool.not_eq_false']at af;simp only[Y.cN,map_cons,asw]at h;have hk:s (r k)=k:=by simpa using af.1.1
    split at h
    ·rename_i L2;cases h;exact⟨k,v,by simp[asw],L2.symm,rfl,hk,af.1.2⟩
    ·rename_i L2;obtain⟨d0,gl,ak,ar,aM,aK,be⟩:=bg af.2 h;refine⟨d0,gl,?_,ar,aM,aK,be⟩;rw[asw,if_neg]
     ·exact ak
     ·intro e;subst e;exact L2 ar.symm
  exact key σ D Z
 refine⟨I,λx=>β (s x),{h with cw:=λd o Z=>?_,dA:=λd dh Z dH cb b=>?_,keep:=λd Z=>?_},λt=>?_⟩
 ·obtain⟨d0,gl,ak,rfl,rfl,aK,be⟩:=obj d o Z;have ai:=h.cw d0 gl ak;cases gl with
  |cells T cs=>
   simp only[aY,cc.cN,aK]at ai ⊢;rcases ai with q|⟨b,arr,aJ,e2,dm,gb⟩
   ·exact .inl q
   ·exact .inr ⟨b,arr,aJ,e2,zI (r:=r) U cs _ be dm,gb⟩
  |slice T sz xs k c5=>simpa only[aY,cc.cN,aK]using ai
  |map K E bH=>simpa only[aY,cc.cN,aK]using ai
  |win T sz xs=>simpa only[aY,cc.cN,aK]using ai
  |kf K E bH=>simpa only[aY,cc.cN,aK]using ai
  |gz es clock K E bH=>simpa only[aY,cc.cN,aK]using ai
  |iter cz q9 kW seen=>
   have e:β (s (r cz))=β cz:=U cz be;simpa only[aY,cc.cN,aK,e]using ai
  |hdr cz n=>
   have e:β (s (r cz))=β cz:=U cz be;simpa only[aY,cc.cN,aK,e]using ai
  |b9 cU=>simpa only[aY,cc.cN,aK]using ai
  |vec T xs=>simpa only[aY,cc.cN,aK]using ai
  |jP es clock bH seen=>simpa only[aY,cc.cN,aK]using ai
  |gP T xs t=>
   have e:β (s (r t))=β t:=U t be;simpa only[aY,cc.cN,aK,e]using ai
  |eO T e n du=>
   simp only[nV,Bool.or_eq_false_iff]at be;have aJ:β (s (r e))=β e:=U e be.1
   have cA:∀X cv,jD (λx=>β (s x)) X cv (q2 r du)↔jD β X cv du:=λX cv=>by
    cases du with
    |none=>exact Iff.rfl
    |some q=>obtain⟨i,t⟩:=q;cases i<;>simp only[jD,q2,U t be.2]
   simpa only[aY,cc.cN,aK,aJ,cA]using ai
  |fc K E e keys du iK=>
   simp only[nV,Bool.or_eq_false_iff]at be;have aJ:β (s (r e))=β e:=U e be.1
   have cA:∀X cv,jD (λx=>β (s x)) X cv (q2 r du)↔jD β X cv du:=λX cv=>by
    cases du with
    |none=>exact Iff.rfl
    |some q=>obtain⟨i,t⟩:=q;cases i<;>simp only[jD,q2,U t be.2]
   simpa only[aY,cc.cN,aK,aJ,cA]using ai
 ·obtain⟨o,Z⟩:=Option.isSome_iff_exists.1 Z;obtain⟨hx,dH⟩:=Option.isSome_iff_exists.1 dH;obtain⟨d0,gl,ak,rfl,_,aK,_⟩:=obj d o Z;obtain⟨d1,hI,cQ,rfl,_,i6,_⟩:=obj dh hx dH;simp only[aK,i6];exact h.dA d0 d1 (by rw[ak];rfl) (by rw[cQ];rfl) (λe=>cb (by rw[e])) b
 ·have:=aj d Z;simp only[this];exact h.keep d Z
 ·rw[atD];exact Oh (r:=r) U _ _ (asU h1 t) (b3 t)
variable {G:ch}{σ:Y}
def aus{env:ah}(t d:Nat)(T:TypeId)(sz:Nat)(aR:env.get t=.c4)(Z:σ.get d=none)(hi:G.ids.contains d=false)(af:env.clean (Nat.beq d)=true)(X:σ.clean (Nat.beq d)=true):
  cr G env σ ((t,.own d)::env) ((d,.slice T sz [] 0 false)::σ):=λcx I β a w h b3=>by
 let β':Nat→Value:=λx=>if x=d then .slice none 0 0 else β x
 have U:∀x,Nat.beq d x=false→β' x=β x:=λx u=>by
  have:x≠d:=λe=>by subst e;simp at u
  show(if x=d then _ else β x)=_;rw[if_neg this]
 have fL:β' d=.slice none 0 0:=by show(if d=d then _ else _)=_;rw[if_pos rfl]
 refine⟨I,β',{h with cw:=λx o e=>?_,dA:=λx y ex vM cb b=>?_,keep:=λx u=>?_},λaA=>?_⟩
 ·rw[asw]at e;split at e
  ·rename_i u;subst u;cases e
   simp only[aY,fL];exact .inr (.inl ⟨trivial,trivial,trivial⟩)
  ·obtain⟨bl,b2⟩:=asF X x o e;exact(h.cw x o e).beta U bl b2
 ·rw[asw]at ex vM;by_cases u:d=x
  ·subst u;rw[fL];simp[IK]
  ·by_cases ag:d=y
   ·subst ag;rw[fL];simp[IK]
   ·rw[if_neg u]at ex;rw[if_neg ag]at vM;rw[U x (by rw[←Bool.not_eq_true,Nat.beq_eq];exact u),U y (by rw[←Bool.not_eq_true,Nat.beq_eq];exact ag)];exact h.dA x y ex vM cb b
 ·have:d≠x:=λe=>by subst e;simp at hi;exact hi u
  rw[U x (by rw[←Bool.not_eq_true,Nat.beq_eq];exact this)];exact h.keep x u
 ·rw[asI];split
  ·rename_i bE;subst bE;have:=b3 t;rw[aR]at this;simp only[au,bc]at this;simp only[au,this,fL,iD,and_self]
  ·exact u4 U _ _ (asU af aA) (b3 aA)
def Q.CC:Q→Prop
 |.bf _ xs=>xs.length≤maxLen
 |_=>True
def KA:List Q→Prop
 |[]=>True
 |x::r=>x.CC∧KA r
def Q.aW:Q→Prop
 |.bf _ xs=>xs.length≤maxLen
 |.agg cs=>KA cs
 |_=>True
def CD:List Q→Prop
 |[]=>True
 |x::r=>x.aW∧CD r
def au.CC{I:bs}{β:Nat→Value}{a:Q}{v:Value}(h:au I β a v):a.CC:=by
 cases a<;>simp only[Q.CC]
 simp only[au,bc]at h;obtain⟨_,_,_,h1,D,_⟩:=h;omega
def bW.aW{I:bs}{β:Nat→Value}:∀{a:List Q} {v:dZ},bW I β a v→KA a
 |[],_,_=>trivial
 |x::r,_,h=>by
  simp only[bW]at h;obtain⟨_,_,_,h1,D⟩:=h;exact⟨h1.CC,bW.aW D⟩
def au.aW{I:bs}{β:Nat→Value}{a:Q}{v:Value}(h:au I β a v):a.aW:=by
 cases a<;>simp only[Q.aW]
 ·exact h.CC
 ·simp only[au]at h;obtain⟨_,_,h⟩:=h;exact h.aW
def bW.CD{I:bs}{β:Nat→Value}:∀{a:List Q} {v:dZ},bW I β a v→CD a
 |[],_,_=>trivial
 |x::r,_,h=>by
  simp only[bW]at h;obtain⟨_,_,_,h1,D⟩:=h;exact⟨h1.aW,bW.CD D⟩
def A.aW{G:ch}{c:Code}{bq:Exit→ah→Y→Prop}{env:ah}{σ:Y}(t:Nat)(k:(env.get t).aW→aS G c bq env σ):aS G c bq env σ:=by
 refine asT λcx a w aB=>?_;obtain⟨I,β,h1,D,aj,a1⟩:=aB;exact(k (D t).aW).use cx a w ⟨I,β,h1,D,aj,a1⟩
def Y.ids(σ:Y):dg:=σ.map (·.1)
def eP(P:Program)(f:FuncId)(iq:Y)(args:List Q)(hL:Q→Y→Prop):Prop:=
 ∀(cx:eW) (w:World) (I:bs) (β:Nat→Value) (vs:dZ),bY ⟨P,0,iq.ids⟩ cx I β iq w→bW I β args vs→
  Calls P f vs.toArray w (λe w'=>∃v,e=.returned v∧∃r az aU β',hL r az∧au aU β' r v∧bY ⟨P,0,iq.ids⟩ cx aU β' az w')
def eP.mono{P:Program}{f:FuncId}{iq:Y}{args:List Q}{hL CZ:Q→Y→Prop}(h:eP P f iq args hL)(aC:∀r az,hL r az→CZ r az):eP P f iq args CZ:=
 λcx w I β vs h1 D=>Calls.mono (h cx w I β vs h1 D) λ_ _ ⟨v,he,r,az,aU,β',ak,ar,aM⟩=>⟨v,he,r,az,aU,β',aC _ _ ak,ar,aM⟩
def dT(P:Program)(f:FuncId)(iq:Y)(args:List Q)(r:Q):Prop:=eP P f iq args (λa az=>a=r∧az=iq)
structure dL(P:Program)(T:TypeId)(n:Nat)(dG:Bool):Prop where
 size:∀w,(sizeOf T).run P w=.ok n w
 agg:∀w,(isAgg T).run P w=.ok dG w
def pg(dG:Bool)(n:Nat)(cs:List Q):Q:=bif dG then .agg (cs.take n)else cs.headD .e9
def Bz{I:bs}{β:Nat→Value}:∀(k:Nat) (cs:List Q) (vs:dZ),bW I β cs vs→bW I β (cs.drop k) (vs.drop k)
 |0,_,_,h=>by simpa using h
 |k+1,[],vs,h=>by simp only[bW]at h;subst h;simp[bW]
 |k+1,x::r,vs,h=>by
  simp only[bW]at h;obtain⟨aA,bI,rfl,_,D⟩:=h;simpa using Bz k r bI D
def BA{I:bs}{β:Nat→Value}:∀(k:Nat) (cs:List Q) (vs:dZ),bW I β cs vs→bW I β (cs.take k) (vs.take k)
 |0,_,_,_=>by simp[bW]
 |k+1,[],vs,h=>by simp only[bW]at h;subst h;simp[bW]
 |k+1,x::r,vs,h=>by
  simp only[bW]at h;obtain⟨aA,bI,rfl,h1,D⟩:=h;simp only[take_succ_cons,bW];exact⟨aA,_,rfl,h1,BA k r bI D⟩
def mc(b o n:Nat):Addr.add ⟨b,o,none⟩ n=⟨b,o+n,none⟩:=by
 unfold Addr.add;split<;>simp_all
variable {P:Program}{T:TypeId}{b:Nat}{dG:Bool}{w:World}
def Bi{n:Nat}(aQ:dL P T n dG){off:Nat}{vs:dZ}(h:∀j,j<n→∃v,vs[j]?=some v∧w.cell? ⟨b,off+j,none⟩=some v)(aR:dG=false→0<n):
  (loadVar T ⟨b,off,none⟩).run P w=.ok (if dG then .agg (vs.take n).toArray else vs.headD undef) w:=by
 unfold loadVar;simp only[Sem.run_bind,aQ.agg,Result.andThen_ok];cases dG with
 |true=>
  simp only[if_true,Sem.run_bind,aQ.size,Result.andThen_ok];have:(loadCells ⟨b,off,none⟩ n).run P w=.ok (vs.take n).toArray w:=by
   have eA:(vs.take n).length=n:=by
    rw[length_take];rcases Nat.lt_or_ge vs.length n with aH|aH
    ·obtain⟨v,h1,_⟩:=h vs.length aH;simp at h1
    ·omega
   have key:=run_loadCells_list (P:=P) w ⟨b,off,none⟩ (vs.take n) (λj v aa=>by
    rw[getElem?_take]at aa;split at aa
    ·rename_i aT;obtain⟨dF,h1,D⟩:=h j aT;rw[h1]at aa;cases aa;rw[mc];exact D
    ·cases aa)
   rw[eA]at key;exact key
  rw[this];rfl
 |false=>
  obtain⟨v,h1,D⟩:=h 0 (aR rfl);simp only[load];simp only[Bool.false_eq_true,if_false,Sem.run];rw[show(⟨b,off,none⟩:Addr)=⟨b,off+0,none⟩from rfl,D];cases vs with
  |nil=>simp at h1
  |cons x r=>simp at h1;subst h1;rfl
def Oi{I:bs}{β:Nat→Value}:∀(xs:cq) (vs:dZ),bW I β (xs.map (Q.int .i64)) vs→vs=xs.map (Value.int .i64)
 |[],vs,h=>by simpa only[map_nil,bW]using h
 |x::r,vs,h=>by
  simp only[map_cons,bW]at h;obtain⟨aA,bI,rfl,h1,D⟩:=h;rw[show aA=Value.int .i64 x by simpa [au,bc]using h1,Oi r bI D];rfl
def I8{I:bs}{β:Nat→Value}:∀(xs:cq),bW I β (xs.map (Q.int .i64)) (xs.map (Value.int .i64))
 |[]=>by simp[bW]
 |x::r=>by simp only[map_cons,bW];exact⟨_,_,rfl,by simp[au,bc],I8 r⟩
variable {I:bs}{β:Nat→Value}
def Qu{xs:cq}{v:Value}:au I β (.agg (xs.map (Q.int .i64))) v↔au I β (.arr xs) v:=by
 simp only[au,bc];constructor
 ·rintro⟨vs,rfl,h⟩;rw[←Oi xs _ h]
 ·rintro rfl;exact⟨_,rfl,by simpa using I8 xs⟩
inductive qv(G:ch)(env:ah)(σ:Y):ResultVar→Q→Prop
 |tmp (t:Nat):qv G env σ (.tmp t) (env.get t)
 |cell (a T d:Nat) (aV n:Nat) (dG:Bool) (cs:List Q) (ay:env.get a=.ptr d 0) (Z:σ.get d=some (.cells aV cs)) (aQ:dL G.P T n dG) (aR:cs.length=n) (bM:dG=false→0<n):qv G env σ (.cell a T) (pg dG n cs)
 |arr (a T d:Nat) (aV n:Nat) (xs:cq) (ay:env.get a=.ptr d 0) (Z:σ.get d=some (.vec aV xs)) (aQ:dL G.P T n true) (aR:xs.length=n):qv G env σ (.cell a T) (.arr xs)
def FG(tmps:iY):ResultVar→Sem Value
 |.tmp t=>pure (tmps.getD t undef)
 |.cell a t=>do loadVar t (←asAddr (tmps.getD a undef))
variable {aV:TypeId}
def bY.box{cx:eW}(an:bY G cx I β σ w){d:Nat}{cs:List Q}(Z:σ.get d=some (.cells aV cs))(U:b1 (β d)=some b):
  ∃arr,β d=.pointer (some ⟨b,0,none⟩)∧w.heap[b]?=some (.cells arr aV (0,0))∧bW I β cs arr.toList∧(∀o,I b o=none)∧Place cx b:=by
 have ai:=an.cw d _ Z;simp only[aY]at ai;rcases ai with q|⟨ep,arr,ak,ar,aM,aK,be⟩
 ·rw[q]at U;simp[b1]at U
 ·have:ep=b:=by rw[ak]at U;simpa [b1]using U
  subst this;exact⟨arr,ak,ar,aM,aK,be⟩
def HN{n:Nat}(aQ:dL P T n dG)(bM:dG=false→0<n){off:Nat}{arr:iY}{cs:List Q}(U:w.heap[b]?=some (.cells arr aV (0,0)))
  (aB:bW I β cs arr.toList) (aR:off+n≤cs.length):∃v,(loadVar T ⟨b,off,none⟩).run P w=.ok v w∧au I β (pg dG n (cs.drop off)) v:=by
 have aH:=sx _ _ aB
 have pK:∀j,j<n→∃v,(arr.toList.drop off)[j]?=some v∧w.cell? ⟨b,off+j,none⟩=some v:=λj aT=>by
  have pL:off+j<arr.toList.length:=by omega
  refine⟨arr.toList[off+j],by rw[getElem?_drop];exact List.getElem?_eq_getElem pL,?_⟩;simp only[World.cell?,U];simpa using List.getElem?_eq_getElem pL
 refine⟨_,Bi aQ pK bM,?_⟩;have Z:=Bz off _ _ aB;cases dG with
 |true=>
  simp only[pg,cond_true,if_true,au];exact⟨_,rfl,by simpa using BA n _ _ Z⟩
 |false=>
  simp only[pg,cond_false,Bool.false_eq_true,if_false];generalize cs.drop off=cS at Z;cases cS with
  |nil=>simp[au]
  |cons x r=>
   simp only[bW]at Z;obtain⟨aA,bI,e,Z,_⟩:=Z;rw[e];exact Z
def qv.run{G:ch}{env:ah}{σ:Y}{r:ResultVar}{x:Q}(h:qv G env σ r x){cx:eW}{I:bs}{β:Nat→Value}{w:World}{a:Act}(an:bY G cx I β σ w)(bE:lI I β env a):
  ∃v,au I β x v∧(FG a.tmps r).run G.P w=.ok v w:=by
 cases h with
 |tmp t=>exact⟨_,bE t,rfl⟩
 |cell b T d aV n dG cs ay Z aQ aR bM=>
  have h1:=bE b;rw[ay]at h1;simp only[au]at h1;obtain⟨aP,fA,eS⟩:=h1;obtain⟨arr,ak,ar,aM,_⟩:=an.box Z fA;obtain⟨v,gJ,gA⟩:=HN aQ bM (off:=0) ar aM (by omega);refine⟨v,by simpa using gA,?_⟩;simp only[FG,eS,asAddr,Sem.run_bind,Sem.run_pure,Result.andThen_ok];exact gJ
 |arr b T d aV n xs ay Z aQ aR=>
  have h1:=bE b;rw[ay]at h1;simp only[au]at h1;obtain⟨aP,fA,eS⟩:=h1;have ai:=an.cw d _ Z;simp only[aY]at ai;rcases ai with q|⟨ep,arr,aJ,e2,dm,_⟩
  ·rw[q]at fA;cases fA
  have rJ:ep=aP:=by rw[aJ]at fA;simpa [b1]using fA
  subst rJ;obtain⟨v,gJ,gA⟩:=HN (I:=I) (β:=β) (cs:=xs.map (Q.int .i64)) aQ (by simp) (off:=0) e2 (by rw[dm];exact I8 xs) (by simp;omega);refine⟨v,Qu.1 ?_,?_⟩
  ·simp only[pg,cond_true,drop_zero]at gA;rw[take_of_length_le (by simp;omega)]at gA;exact gA
  ·simp only[FG,eS,asAddr,Sem.run_bind,Sem.run_pure,Result.andThen_ok];exact gJ
inductive Af(G:ch)(env:ah)(σ:Y):List ResultVar→List Q→Prop
 |nil:Af G env σ [] []
 |cons {r:ResultVar} {x:Q} {rs:List ResultVar} {xs:List Q} (h:qv G env σ r x) (k:Af G env σ rs xs):Af G env σ (r::rs) (x::xs)
def Af.run{G:ch}{env:ah}{σ:Y}{rs:List ResultVar}{xs:List Q}(h:Af G env σ rs xs){cx:eW}{I:bs}{β:Nat→Value}{w:World}{a:Act}(an:bY G cx I β σ w)(bE:lI I β env a):
  ∃vs:dZ,bW I β xs vs∧(rs.mapM (FG a.tmps)).run G.P w=.ok vs w∧vs.length=rs.length:=by
 induction h with
 |nil=>exact⟨[],rfl,rfl,rfl⟩
 |cons h _ bg=>
  obtain⟨v,h1,D⟩:=h.run an bE;obtain⟨vs,gv,cK,pT⟩:=bg;refine⟨v::vs,⟨v,vs,rfl,h1,gv⟩,?_,by simp[pT]⟩;simp[mapM_cons,Sem.run_bind,D,cK]
inductive us(G:ch)(env:ah)(σ:Y):List ResultVar→Q→Prop
 |zero:us G env σ [] (.cI [])
 |one {r:ResultVar} {x:Q} (h:qv G env σ r x):us G env σ [r] x
 |two {r s:ResultVar} {x y:Q} (h:qv G env σ r x) (k:qv G env σ s y):us G env σ [r,s] (.cI [x,y])
 |three {r s t:ResultVar} {x y z:Q} (h:qv G env σ r x) (k:qv G env σ s y) (l:qv G env σ t z):us G env σ [r,s,t] (.cI [x,y,z])
 |more {rs:List ResultVar} {xs:List Q} (h:Af G env σ rs xs) (aH:4≤rs.length):us G env σ rs (.cI xs)
def us.run{G:ch}{env:ah}{σ:Y}{fn:Func}{x:Q}(h:us G env σ fn.results.toList x){cx:eW}{I:bs}{β:Nat→Value}{w:World}{a:Act}(an:bY G cx I β σ w)(bE:lI I β env a):
  ∃v,au I β x v∧(results fn a.tmps).run G.P w=.ok v w:=by
 generalize aH:fn.results.toList=l at h;have aB:fn.results=l.toArray:=by rw[←aH]
 have he:results fn a.tmps=(do let vs ←l.toArray.mapM (FG a.tmps);pure (if h:vs.size=1 then vs[0]else .tuple vs)):=by
  unfold results;rw[aB];rfl
 rw[he];cases h with
 |zero=>exact⟨.tuple #[],by simp[au,bW],by simp⟩
 |one h=>
  obtain⟨v,h1,D⟩:=h.run an bE;refine⟨v,h1,?_⟩;simp[mapM_cons,Sem.run_bind,D]
 |two h k=>
  obtain⟨v,h1,D⟩:=h.run an bE;obtain⟨aA,gv,cK⟩:=k.run an bE;refine⟨.tuple #[v,aA],?_,?_⟩
  ·simp only[au];exact⟨_,rfl,v,[aA],rfl,h1,aA,[],rfl,gv,rfl⟩
  ·simp[mapM_cons,Sem.run_bind,D,cK]
 |three h k l=>
  obtain⟨v,h1,D⟩:=h.run an bE;obtain⟨aA,gv,cK⟩:=k.run an bE;obtain⟨t,o9,ji⟩:=l.run an bE;refine⟨.tuple #[v,aA,t],?_,?_⟩
  ·simp only[au];exact⟨_,rfl,v,[aA,t],rfl,h1,aA,[t],rfl,gv,t,[],rfl,o9,rfl⟩
  ·simp[mapM_cons,Sem.run_bind,D,cK,ji]
 |more h GQ=>
  obtain⟨vs,gv,cK,pT⟩:=h.run an bE;refine⟨.tuple vs.toArray,⟨vs.toArray,rfl,by simpa using gv⟩,?_⟩;have cb:¬vs.length=1:=by omega
  simp[Sem.run_bind,cK,cb]
def BX:Nat→List Q→ah
 |_,[]=>[]
 |k,x::r=>(k,x)::BX (k+1) r
def WH{I:bs}{β:Nat→Value}:∀(cv:List Q) (vs:dZ) (k t:Nat),bW I β cv vs→au I β ((BX k cv).get t) (if k≤t then vs.getD (t-k) undef else undef)∨(BX k cv).get t=.e9
 |[],_,_,_,_=>.inr rfl
 |x::r,vs,k,t,h=>by
  simp only[bW]at h;obtain⟨aA,bI,rfl,h1,D⟩:=h;simp only[BX,asI];split
  ·rename_i hk;subst hk;left;simpa using h1
  ·rename_i hk;rcases WH r bI (k+1) t D with q|q
   ·left;by_cases bL:k+1≤t
    ·rw[if_pos bL]at q;rw[if_pos (by omega),show t-k=(t-(k+1))+1 from by omega,getD_cons_succ];exact q
    ·rw[if_neg bL]at q;rw[if_neg (by omega)];exact q
   ·exact .inr q
def Q1(G:ch)(fn:Func)(hL:Q→Y→Prop):Exit→ah→Y→Prop
 |.normal,env,σ|.ret,env,σ=>∃c5 x r az,us G env (σ.freeze c5) fn.results.toList x∧iw (σ.freeze c5) x r∧(∀p∈az,(σ.freeze c5).get p.1=some p.2)∧hL r az
 |_,_,_=>False
def sI:∀(l:Y) d o,l.get d=some o→∃p∈l,p.1=d∧p.2=o:=by
 intro l;induction l with
 |nil=>intro d o h;simp[Y.get]at h
 |cons x r bg=>
  intro d o h;obtain⟨k,v⟩:=x;rw[asw]at h;split at h
  ·rename_i hk;injection h with h;exact⟨(k,v),by simp,hk,h⟩
  ·obtain⟨p,h1,D,aj⟩:=bg d o h;exact⟨p,by simp[h1],D,aj⟩
def eP.enter{f:FuncId}{fn:Func}{c:Code}{iq:Y}{args:List Q}{hL:Q→Y→Prop}(bm:P.funcs[f]?=some fn)(U:fn.body=some c)(sA:args.length≤fn.ntmps)
  (h:CD args→aS ⟨P,fn.ntmps,iq.ids⟩ c (Q1 ⟨P,fn.ntmps,iq.ids⟩ fn hL) (BX 0 args) iq):eP P f iq args hL:=by
 intro cx w I β vs an aB;have eA:=sx _ _ aB;have e1:bY ⟨P,fn.ntmps,iq.ids⟩ cx I β iq w:={an with};refine calls_of_wp bm U ?_;refine wp_mono ((h aB.CD).use cx _ w ⟨I,β,e1,λt=>?_,?_,rfl⟩) ?_
 ·rcases WH args vs 0 t aB with q|q
  ·have:((vs.toArray++Array.replicate (fn.ntmps-vs.toArray.size) undef).getD t undef)=vs.getD t undef:=by
    rw[Array.getD_eq_getD_getElem?,Array.getElem?_append,getD_eq_getElem?_getD];split
    ·simp
    ·rename_i U9;have:vs[t]?=none:=List.getElem?_eq_none (by simpa using U9);rw[this,Array.getElem?_replicate];split<;>rfl
   rw[this];simpa using q
  ·rw[q];simp[au]
 ·simp;omega
 ·rintro e gE w' ⟨gy,az,⟨aU,β',gJ,gA,mM,pr⟩,bV⟩
  have fin:(∃c5 x r σ2,us ⟨P,fn.ntmps,iq.ids⟩ gy (az.freeze c5) fn.results.toList x∧iw (az.freeze c5) x r∧(∀p∈σ2,(az.freeze c5).get p.1=some p.2)∧hL r σ2)→
    gE.defers=[]∧∃v,(results fn gE.tmps).run P w'=.ok v w'∧(∃dK,Ending.returned v=.returned dK∧∃r az aU β',hL r az∧au aU β' r dK∧bY ⟨P,0,iq.ids⟩ cx aU β' az w'):=by
   rintro⟨c5,x,r,σ2,ak,ar,aM,aK⟩;obtain⟨CW,hle,oG⟩:=gJ.Ie c5;obtain⟨v,dW,eg⟩:=ak.run oG (gA.mono hle (hp.refl _));refine⟨pr,v,eg,v,rfl,r,σ2,CW,β',aK,ar.rep oG _ dW,?_⟩
   have:=oG.sub (σ2:=σ2) λd o Z=>by
    obtain⟨p,cQ,dM,eH⟩:=sI σ2 d o Z;rw[←dM,←eH];exact aM p cQ
   exact{this with}
  cases e with
  |normal=>exact fin bV
  |ret=>exact fin bV
  |exit _=>exact bV.elim
  |goto _=>exact bV.elim
  |panic _=>exact bV.elim
  |outgrown=>exact bV.elim
end
section
def Yields.pure{G:ch}{o:Oper}{ev:Operand→Q}{σ:Y}{R:dg}{bN:Q}
  (h:∀(az:Y) (cx:eW) (I:bs) (β:Nat→Value) (w:World) (aZ:Operand→Value),(∀d∈R,az.get d=σ.get d)→bY G cx I β az w→(∀x∈o.op.operands,au I β (ev x) (aZ x))→
   ∃v,(execOp aZ o).run G.P w=.ok (.value v) w∧au I β bN v):Yields G o ev σ [] R bN:=by
 intro az cx I β w aZ h1 D _ a1;obtain⟨v,aB,aa⟩:=h az cx I β w aZ h1 D a1;rw[aB];exact⟨I,β,aa,D,cn.refl I,λ_ _=>rfl⟩
def avb{G:ch}{o:Oper}{ev:Operand→Q}{σ:Y}{R:dg}{bN:Q}(h:Yields G o ev σ [] R bN):h5 G o ev σ [] [] (λa az=>a=bN∧az=σ):=by
 intro cx I β w aZ an u;have:=h σ cx I β w aZ (λ_ _=>rfl) an (λd Z=>by simp at Z) u;generalize (execOp aZ o).run G.P w=r at this;cases r with
 |halt x w'=>exact this.elim
 |ok n w'=>
  have key:∀v uv,(∃aU β',au aU β' bN v∧bY G cx aU β' σ uv∧cn I aU∧(∀d,d∉([]:dg)→β' d=β d))→∃Uz az aU β',(Uz=bN∧az=σ)∧au aU β' Uz v∧bY G cx aU β' az uv∧cn I aU∧
    (∀d,d∉([]:dg)→β' d=β d)∧(∀d,d∉([]:dg)→az.get d=σ.get d):=
   λv uv ⟨aU,β',ak,ar,aM,aK⟩=>⟨bN,σ,aU,β',⟨rfl,rfl⟩,ak,ar,aM,aK,λ_ _=>rfl⟩
  cases n<;>simp only[m3]at this ⊢
  ·exact key _ _ this
  ·exact key _ _ this
  ·exact Calls.mono this λ_ _ ⟨v,he,aa⟩=>⟨v,he,key _ _ aa⟩
section steps
variable {G:ch}{ops:l7}{s:mx}{log:List (Nat×dg)}{i:Nat}{l:dg}{env:ah}{σ:Y}{K:ah→Y→Prop}{o:Oper}{bN:Q}
def jm.n(bu:o.guard=none):jm ops o env:=by unfold jm;rw[bu];trivial
def auI{j:Nat}{want p:Bool}{ek:Oper}{g2:Nat}(bu:o.guard=some (j,want))(aT:ops[j]?=some ek)(Z:ek.dst=some g2)(he:env.get g2=.bool p)(aC:p=want):jm ops o env:=by
 unfold jm;rw[bu];exact⟨ek,g2,aT,Z,by rw[he,aC]⟩
def auJ{j:Nat}{want p:Bool}{ek:Oper}{g2:Nat}(bu:o.guard=some (j,want))(aT:ops[j]?=some ek)(Z:ek.dst=some g2)(he:env.get g2=.bool p)(aC:p=!want):mj ops o env:=by
 unfold mj;rw[bu];exact⟨ek,g2,aT,Z,.inl (by rw[he,aC])⟩
def mj.undef{j:Nat}{want:Bool}{ek:Oper}{g2:Nat}(bu:o.guard=some (j,want))(aT:ops[j]?=some ek)(Z:ek.dst=some g2)(he:env.get g2=.undef):mj ops o env:=by
 unfold mj;rw[bu];exact⟨ek,g2,aT,Z,.inr he⟩
def qo(s:mx)(i:Nat):Bool:=!(s.ff&&s.es.contains i)
def vV(s:mx)(i:Nat):Bool:=!s.ff||s.es.contains i
def N5(h:qo s i=true):s.ff=true→i∉s.es:=λZ=>by simpa [qo,Z]using h
def Qe(h:vV s i=true):s.ff=true→i∈s.es:=λZ=>by simpa [vV,Z]using h
def J5(σ:Y)(R:dg):Bool:=R.all λd=>(σ.get d).isSome
def X7{R:dg}(h:J5 σ R=true):∀d∈R,(σ.get d).isSome:=λd Z=>List.all_eq_true.1 h d Z
def C.y{R:dg}(ai:ops[i]?=some o)(an:jm ops o env)(X:qo s i=true)(cf:J5 σ R=true)(hV:Yields G o env.ev σ [] R bN)
  (k:fD G ops s ((i,R)::log) l (env.put o.dst bN) σ K):fD G ops s log (i::l) env σ K:=
 ⟨o,ai,.inr (.inl ⟨an,N5 X,[],R,bN,σ,as3 G σ env,X7 cf,λd Z=>by simp at Z,hV,k⟩)⟩
def C.skip(ai:ops[i]?=some o)(an:mj ops o env)(X:qo s i=true)(k:fD G ops s ((i,[])::log) l (env.put o.dst .undef) σ K):fD G ops s log (i::l) env σ K:=
 ⟨o,ai,.inl ⟨an,N5 X,k⟩⟩
def auO(ai:ops[i]?=some o)(an:mj ops o env)(X:vV s i=true)(k:fD G ops s log l (env.put o.dst .undef) σ K):fD G ops s log (i::l) env σ K:=
 ⟨o,ai,.inr (.inr (.inr ⟨an,Qe X,k⟩))⟩
def C.v{d:Nat}{aX:cc}(ai:ops[i]?=some o)(an:jm ops o env)(X:qo s i=true)(hi:G.ids.contains d=false)(he:env.clean [d].contains=true)(af:σ.clean [d].contains=true)(cA:Tt aX=true)
  (hV:Yields G o env.ev ((d,aX)::σ) [d] [d] bN) (k:fD G ops s ((i,[d])::log) l (env.put o.dst bN) ((d,aX)::σ) K):fD G ops s log (i::l) env σ K:=
 ⟨o,ai,.inr (.inl ⟨an,N5 X,[d],[d],bN,(d,aX)::σ,⟨λx u=>by rw[asw,if_neg (λe=>u (by simp[e]))],λx u=>by simp at u;subst u;simpa using hi,he,af,λx u cz n h=>by simp at u;subst u;rw[asw,if_pos rfl]at h;cases h;cases cA⟩,
  λx u=>by simp at u;subst u;simp[asw],λx u=>u,hV,k⟩)⟩
def C.e{M news:dg}{Φ:Q→Y→Prop}(ai:ops[i]?=some o)(an:jm ops o env)(X:vV s i=true)(eX:h5 G o env.ev σ M news Φ)(aH:(!s.ff||rV s i M log)=true)
  (af:env.clean news.contains=true) (aR:news.all (λd=>!G.ids.contains d&&(σ.get d).isNone)=true) (k:∀bN az,Φ bN az→fD G ops s log l (env.put o.dst bN) az K):fD G ops s log (i::l) env σ K:=
 ⟨o,ai,.inr (.inr (.inl ⟨an,Qe X,M,news,Φ,eX,λZ=>by simpa [Z]using aH,af,λd Z=>by
  have:=List.all_eq_true.1 aR d Z;simpa using this,k⟩))⟩
def C.vM{R:dg}(ai:ops[i]?=some o)(an:jm ops o env)(X:vV s i=true)(hV:Yields G o env.ev σ [] R bN)(k:fD G ops s log l (env.put o.dst bN) σ K):fD G ops s log (i::l) env σ K:=by
 have FF:∀log:List (Nat×dg),rV s i [] log=true:=by
  intro log;induction log with
  |nil=>rfl
  |cons x r Mp=>obtain⟨k,R⟩:=x;simp[rV,Mp]
 exact C.e ai an X (avb hV) (by simp[FF]) (as2 env) rfl (λa az ⟨h1,D⟩=>by subst h1 D;exact k)
def C.nil(k:K env σ):fD G ops s log [] env σ K:=k
def avi(p:Bool)(h1:p=true→fD G ops s log l env σ K)(D:p=false→fD G ops s log l env σ K):fD G ops s log l env σ K:=by
 cases p
 ·exact D rfl
 ·exact h1 rfl
def fD.mono{lQ:ah→Y→Prop}(hk:∀env σ,K env σ→lQ env σ):∀{l:dg} {log:List (Nat×dg)} {env:ah} {σ:Y},fD G ops s log l env σ K→fD G ops s log l env σ lQ
 |[],_,_,_,h=>hk _ _ h
 |_::_,_,_,_,⟨o,ai,h⟩=>⟨o,ai,by
  rcases h with⟨h1,D,aj⟩|⟨h1,D,dI,R,bN,σ2,aa,cf,oC,hV,aj⟩|⟨h1,D,M,news,Φ,eX,yf,hX,sD,aj⟩|⟨h1,D,aj⟩
  ·exact .inl ⟨h1,D,fD.mono hk aj⟩
  ·exact .inr (.inl ⟨h1,D,dI,R,bN,σ2,aa,cf,oC,hV,fD.mono hk aj⟩)
  ·exact .inr (.inr (.inl ⟨h1,D,M,news,Φ,eX,yf,hX,sD,λa az D8=>fD.mono hk (aj a az D8)⟩))
  ·exact .inr (.inr (.inr ⟨h1,D,fD.mono hk aj⟩))⟩
end steps
section ops
variable {G:ch}{o:Oper}{ev:Operand→Q}{σ:Y}
def bK.move{x:Operand}(h:o.op=.move x):Yields G o ev σ [] [] (ev x):=
 .pure λ_ _ _ _ w aZ _ _ u=>⟨aZ x,by simp[execOp,h],u x (by simp[h,Op.operands])⟩
def bK.assign{x:Operand}(h:o.op=.assign x):Yields G o ev σ [] [] (ev x):=
 .pure λ_ _ _ _ w aZ _ _ u=>⟨aZ x,by simp[execOp,h],u x (by simp[h,Op.operands])⟩
def xM{I:bs}{β:Nat→Value}{b:Bool}{v:Value}(h:au I β (.bool b) v):v=.bool b:=by simpa [au,bc]using h
def jW{I:bs}{β:Nat→Value}{k:IntKind}{n:Int}{v:Value}(h:au I β (.int k n) v):v=.int k n:=by simpa [au,bc]using h
def Q2{I:bs}{β:Nat→Value}{s:ByteArray}{v:Value}(h:au I β (.str s) v):v=.string s:=by simpa [au,bc]using h
def bK.pick{c a b:Operand}{p:Bool}(h:o.op=.pick c a b)(af:ev c=.bool p):Yields G o ev σ [] [] (bif p then ev a else ev b):=
 .pure λ_ _ I β w aZ _ _ u=>by
  have h1:=u c (by simp[h,Op.operands]);rw[af]at h1
  have h1:=xM h1;refine⟨if p then aZ a else aZ b,by simp[execOp,h,h1,asBool],?_⟩;cases p
  ·exact u b (by simp[h,Op.operands])
  ·exact u a (by simp[h,Op.operands])
def atF{c a b:Operand}{p:Bool}(h:o.op=.pick c a b)(af:ev c=.bool p)(aC:p=true):Yields G o ev σ [] [] (ev a):=by
 have:=bK.pick (G:=G) (σ:=σ) h af;rw[aC]at this;exact this
def atG{c a b:Operand}{p:Bool}(h:o.op=.pick c a b)(af:ev c=.bool p)(aC:p=false):Yields G o ev σ [] [] (ev b):=by
 have:=bK.pick (G:=G) (σ:=σ) h af;rw[aC]at this;exact this
def u1(k:IntKind)(n:Int):Prop:=k.wrap n=n
section ints
variable {op:BinOp}{T aV:TypeId}{x y:Operand}{k:IntKind}{m n:Int}
def bK.int(h:o.op=.binOp op T x y aV)(u:ev x=.int k m)(ag:ev y=.int k n){r:Value}{bN:Q}(aR:op≠.shl∧op≠.shr)
  (aB:∀w,(match op with|.add|.sub|.mul=>Op.intArith op k m n|.quo|.rem=>Op.intDiv op k m n|.and|.or|.xor|.andNot=>Op.intBits op k m n|_=>Op.intCmp op m n:Sem Value).run G.P w=.ok r w)
  (rH:∀I β,au I β bN r):Yields G o ev σ [] [] bN:=
 .pure λ_ _ I β w aZ _ _ hop=>by
  have h1:=hop x (by simp[h,Op.operands]);rw[u]at h1;have h1:=jW h1
  have D:=hop y (by simp[h,Op.operands]);rw[ag]at D;have D:=jW D
  refine⟨r,?_,rH I β⟩;have aJ:(eqGuard op T x y (.int k m) (.int k n)).run G.P w=.ok () w:=by
   unfold eqGuard;cases op<;>rfl
  have e2:(binOp op T (.int k m) (.int k n)).run G.P w=.ok r w:=by
   rw[←aB w];cases op<;>first|exact absurd rfl aR.1|exact absurd rfl aR.2|simp[binOp]
  simp[execOp,h,h1,D,aJ,e2]
def bK.lss(h:o.op=.binOp .lss T x y aV)(u:ev x=.int k m)(ag:ev y=.int k n):Yields G o ev σ [] [] (.bool (decide (m<n))):=
 bK.int h u ag (by decide) (λw=>rfl) (λ_ _=>by simp[au,bc])
def bK.leq(h:o.op=.binOp .leq T x y aV)(u:ev x=.int k m)(ag:ev y=.int k n):Yields G o ev σ [] [] (.bool (decide (m≤n))):=
 bK.int h u ag (by decide) (λw=>rfl) (λ_ _=>by simp[au,bc])
def bK.gtr(h:o.op=.binOp .gtr T x y aV)(u:ev x=.int k m)(ag:ev y=.int k n):Yields G o ev σ [] [] (.bool (decide (n<m))):=
 bK.int h u ag (by decide) (λw=>rfl) (λ_ _=>by simp[au,bc])
def bK.geq(h:o.op=.binOp .geq T x y aV)(u:ev x=.int k m)(ag:ev y=.int k n):Yields G o ev σ [] [] (.bool (decide (n≤m))):=
 bK.int h u ag (by decide) (λw=>rfl) (λ_ _=>by simp[au,bc])
def bK.eql(h:o.op=.binOp .eql T x y aV)(u:ev x=.int k m)(ag:ev y=.int k n):Yields G o ev σ [] [] (.bool (decide (m=n))):=
 bK.int h u ag (by decide) (λw=>rfl) (λ_ _=>by simp only[au,bc,Value.bool.injEq];rw[Bool.eq_iff_iff];simp)
def bK.neq(h:o.op=.binOp .neq T x y aV)(u:ev x=.int k m)(ag:ev y=.int k n):Yields G o ev σ [] [] (.bool (!decide (m=n))):=
 bK.int h u ag (by decide) (λw=>rfl) (λ_ _=>by simp only[au,bc,Value.bool.injEq];rw[Bool.eq_iff_iff];simp)
def bK.add(h:o.op=.binOp .add T x y aV)(u:ev x=.int k m)(ag:ev y=.int k n)(U:u1 k (m+n)):Yields G o ev σ [] [] (.int k (m+n)):=
 bK.int h u ag (by decide) (λw=>rfl) (λ_ _=>by simp only[au,bc];rw[U])
def bK.sub(h:o.op=.binOp .sub T x y aV)(u:ev x=.int k m)(ag:ev y=.int k n)(U:u1 k (m-n)):Yields G o ev σ [] [] (.int k (m-n)):=
 bK.int h u ag (by decide) (λw=>rfl) (λ_ _=>by simp only[au,bc];rw[U])
def bK.mul(h:o.op=.binOp .mul T x y aV)(u:ev x=.int k m)(ag:ev y=.int k n)(U:u1 k (m*n)):Yields G o ev σ [] [] (.int k (m*n)):=
 bK.int h u ag (by decide) (λw=>rfl) (λ_ _=>by simp only[au,bc];rw[U])
def auZ(h:o.op=.binOp .add T x y aV)(u:ev x=.int k m)(ag:ev y=.int k n):Yields G o ev σ [] [] (.int k (k.wrap (m+n))):=
 bK.int h u ag (by decide) (λw=>rfl) (λ_ _=>by simp only[au,bc])
def auq(h:o.op=.binOp .sub T x y aV)(u:ev x=.int k m)(ag:ev y=.int k n):Yields G o ev σ [] [] (.int k (k.wrap (m-n))):=
 bK.int h u ag (by decide) (λw=>rfl) (λ_ _=>by simp only[au,bc])
def aum(h:o.op=.binOp .mul T x y aV)(u:ev x=.int k m)(ag:ev y=.int k n):Yields G o ev σ [] [] (.int k (k.wrap (m*n))):=
 bK.int h u ag (by decide) (λw=>rfl) (λ_ _=>by simp only[au,bc])
def bK.rem(h:o.op=.binOp .rem T x y aV)(u:ev x=.int k m)(ag:ev y=.int k n)(aR:n≠0):Yields G o ev σ [] [] (.int k (m.tmod n)):=
 bK.int h u ag (by decide) (λw=>by simp[Op.intDiv,aR];rfl) (λ_ _=>by simp only[au,bc])
def bK.quo(h:o.op=.binOp .quo T x y aV)(u:ev x=.int k m)(ag:ev y=.int k n)(aR:n≠0)(U:u1 k (m.tdiv n)):Yields G o ev σ [] [] (.int k (m.tdiv n)):=
 bK.int h u ag (by decide) (λw=>by simp[Op.intDiv,aR];rfl) (λ_ _=>by simp only[au,bc];rw[U])
def lW(op:BinOp)(k:IntKind)(m n:Int):Int:=
 let a:=BitVec.ofInt k.bits m
 let b:=BitVec.ofInt k.bits n
 match op with
 |.and=>k.wrap (a &&& b).toNat
 |.or=>k.wrap (a ||| b).toNat
 |.xor=>k.wrap (a ^^^ b).toNat
 |.andNot=>k.wrap (a &&& ~~~b).toNat
 |_=>0
def bK.and(h:o.op=.binOp .and T x y aV)(u:ev x=.int k m)(ag:ev y=.int k n):Yields G o ev σ [] [] (.int k (lW .and k m n)):=
 bK.int h u ag (by decide) (λw=>rfl) (λ_ _=>by simp[au,bc,lW])
def bK.or(h:o.op=.binOp .or T x y aV)(u:ev x=.int k m)(ag:ev y=.int k n):Yields G o ev σ [] [] (.int k (lW .or k m n)):=
 bK.int h u ag (by decide) (λw=>rfl) (λ_ _=>by simp[au,bc,lW])
def bK.xor(h:o.op=.binOp .xor T x y aV)(u:ev x=.int k m)(ag:ev y=.int k n):Yields G o ev σ [] [] (.int k (lW .xor k m n)):=
 bK.int h u ag (by decide) (λw=>rfl) (λ_ _=>by simp[au,bc,lW])
def bK.andNot(h:o.op=.binOp .andNot T x y aV)(u:ev x=.int k m)(ag:ev y=.int k n):Yields G o ev σ [] [] (.int k (lW .andNot k m n)):=
 bK.int h u ag (by decide) (λw=>rfl) (λ_ _=>by simp[au,bc,lW])
def bK.shift{dS:IntKind}(hop:op=.shl∨op=.shr)(h:o.op=.binOp op T x y aV)(u:ev x=.int k m)(ag:ev y=.int dS n)(aR:0≤n):
  Yields G o ev σ [] [] (.int k (match op with|.shl=>k.wrap (m*2 ^ min n.toNat k.bits)|_=>m.fdiv (2 ^ min n.toNat k.bits))):=
 .pure λ_ _ I β w aZ _ _ yc=>by
  have h1:=yc x (by simp[h,Op.operands]);rw[u]at h1;have h1:=jW h1
  have D:=yc y (by simp[h,Op.operands]);rw[ag]at D;have D:=jW D
  have A8:¬n<0:=by omega
  rcases hop with rfl|rfl
  ·refine⟨_,by simp[execOp,h,h1,D,eqGuard,binOp,Op.shift,A8];rfl,by simp[au,bc]⟩
  ·refine⟨_,by simp[execOp,h,h1,D,eqGuard,binOp,Op.shift,A8];rfl,by simp[au,bc]⟩
end ints
def bK.not{T:TypeId}{x:Operand}{b:Bool}(h:o.op=.unOp .not T x)(u:ev x=.bool b):Yields G o ev σ [] [] (.bool (!b)):=
 .pure λ_ _ I β w aZ _ _ hop=>by
  have h1:=hop x (by simp[h,Op.operands]);rw[u]at h1;have h1:=xM h1
  exact⟨.bool (!b),by simp[execOp,h,h1,Op.unary],by simp[au,bc]⟩
def bK.neg{T:TypeId}{x:Operand}{k:IntKind}{n:Int}(h:o.op=.unOp .neg T x)(u:ev x=.int k n)(U:u1 k (0-n)):Yields G o ev σ [] [] (.int k (0-n)):=
 .pure λ_ _ I β w aZ _ _ hop=>by
  have h1:=hop x (by simp[h,Op.operands]);rw[u]at h1;have h1:=jW h1
  exact⟨.int k (0-n),by simp only[execOp,h,h1,Op.unary,Op.intArith];rw[U];rfl,by simp[au,bc]⟩
def bK.convert{T aV:TypeId}{x:Operand}{k dS:IntKind}{n:Int}(h:o.op=.convert T aV x)(u:ev x=.int k n)(aQ:∃d,G.P.underlying T=some d)(DM:G.P.underlying aV=some (.int dS)):Yields G o ev σ [] [] (.int dS (dS.wrap n)):=
 .pure λ_ _ I β w aZ _ _ hop=>by
  have h1:=hop x (by simp[h,Op.operands]);rw[u]at h1;have h1:=jW h1
  obtain⟨d,Z⟩:=aQ;have aJ:∀w,(underlying T).run G.P w=.ok d w:=λw=>by simp[underlying,program,Sem.run,Z]
  have e2:∀w,(underlying aV).run G.P w=.ok (.int dS) w:=λw=>by simp[underlying,program,Sem.run,DM]
  refine⟨.int dS (dS.wrap n),?_,by simp[au,bc]⟩;simp only[execOp,h,h1];unfold Go.convert;simp only[Sem.run_bind,aJ,e2,Result.andThen_ok];cases d<;>rfl
def We{P:Program}(op:BinOp)(t:TypeId)(x y:Operand)(a b:Bool)(w:World):(eqGuard op t x y (.bool a) (.bool b)).run P w=.ok () w:=by
 unfold eqGuard;cases op<;>rfl
def anQ{P:Program}(T:TypeId)(a b:Bool)(w:World)(aQ:P.underlying T=some .bool):(binOp .eql T (.bool a) (.bool b)).run P w=.ok (.bool (a==b)) w:=by
 show(do pure (.bool (←Op.equal T (.bool a) (.bool b))):Sem Value).run P w=_;rw[Sem.run_bind,run_equal_bool w T a b aQ];rfl
def anS{P:Program}(T:TypeId)(a b:Bool)(w:World)(aQ:P.underlying T=some .bool):(binOp .neq T (.bool a) (.bool b)).run P w=.ok (.bool (!(a==b))) w:=by
 show(do pure (.bool (!(←Op.equal T (.bool a) (.bool b)))):Sem Value).run P w=_;rw[Sem.run_bind,run_equal_bool w T a b aQ];rfl
def aud{T aV:TypeId}{x y:Operand}{a b:Bool}(h:o.op=.binOp .eql T x y aV)(u:ev x=.bool a)(ag:ev y=.bool b)(aQ:G.P.underlying T=some .bool):Yields G o ev σ [] [] (.bool (a==b)):=
 .pure λ_ _ I β w aZ _ _ hop=>by
  have h1:=hop x (by simp[h,Op.operands]);rw[u]at h1;have h1:=xM h1
  have D:=hop y (by simp[h,Op.operands]);rw[ag]at D;have D:=xM D
  exact⟨.bool (a==b),by simp only[execOp,h,h1,D,Sem.run_bind,We,anQ T a b w aQ,Result.andThen_ok,Sem.run_pure],by simp[au,bc]⟩
def aue{T aV:TypeId}{x y:Operand}{a b:Bool}(h:o.op=.binOp .neq T x y aV)(u:ev x=.bool a)(ag:ev y=.bool b)(aQ:G.P.underlying T=some .bool):Yields G o ev σ [] [] (.bool (!(a==b))):=
 .pure λ_ _ I β w aZ _ _ hop=>by
  have h1:=hop x (by simp[h,Op.operands]);rw[u]at h1;have h1:=xM h1
  have D:=hop y (by simp[h,Op.operands]);rw[ag]at D;have D:=xM D
  exact⟨.bool (!(a==b)),by simp only[execOp,h,h1,D,Sem.run_bind,We,anS T a b w aQ,Result.andThen_ok,Sem.run_pure],by simp[au,bc]⟩
mutual
def valOf:Q→Value
 |.int k n=>.int k n
 |.bool b=>.bool b
 |.str s=>.string s
 |.agg cs=>.agg (Jm cs).toArray
 |_=>undef
def Jm:List Q→dZ
 |[]=>[]
 |x::r=>valOf x::Jm r
end
mutual
def Q.plain:Q→Bool
 |.int _ _=>true
 |.bool _=>true
 |.str _=>true
 |.agg cs=>Jn cs
 |_=>false
def Jn:List Q→Bool
 |[]=>true
 |x::r=>x.plain&&Jn r
end
mutual
def BB{I:bs}{β:Nat→Value}:∀(a:Q) (v:Value),a.plain=true→au I β a v→v=valOf a
 |.int k n,v,_,h=>jW h
 |.bool b,v,_,h=>xM h
 |.str s,v,_,h=>Q2 h
 |.agg cs,v,aC,h=>by
  simp only[au]at h;obtain⟨vs,rfl,h⟩:=h;simp only[valOf,←Xb cs vs.toList (by simpa [Q.plain]using aC) h]
 |.e9,_,aC,_|.undef,_,aC,_|.bf _ _,_,aC,_|.fO _,_,aC,_|.cI _,_,aC,_|.fn _ _,_,aC,_|.c4,_,aC,_|.nI,_,aC,_|.own _,_,aC,_|.ptr _ _,_,aC,_|.dr _,_,aC,_|.eU _ _,_,aC,_|.ko,_,aC,_|.fR _ _,_,aC,_=>by simp[Q.plain]at aC
def Xb{I:bs}{β:Nat→Value}:∀(a:List Q) (v:dZ),Jn a=true→bW I β a v→v=Jm a
 |[],v,_,h=>h
 |x::r,v,aC,h=>by
  simp only[bW]at h;simp only[Jn,Bool.and_eq_true]at aC;obtain⟨aA,bI,rfl,h1,D⟩:=h;simp only[Jm,←BB x aA aC.1 h1,←Xb r bI aC.2 D]
end
def auf{T aV:TypeId}{x y:Operand}{a b:Q}{r:Bool}(h:o.op=.binOp .eql T x y aV)(u:ev x=a)(ag:ev y=b)(MS:a.plain=true)(pb:b.plain=true)(he:∀w,(do eqGuard .eql T x y (valOf a) (valOf b);binOp .eql T (valOf a) (valOf b):Sem Value).run G.P w=.ok (.bool r) w):
  Yields G o ev σ [] [] (.bool r):=
 .pure λ_ _ I β w aZ _ _ hop=>by
  have h1:=hop x (by simp[h,Op.operands]);rw[u]at h1;have h1:=BB a _ MS h1
  have D:=hop y (by simp[h,Op.operands]);rw[ag]at D;have D:=BB b _ pb D
  refine⟨.bool r,?_,by simp[au,bc]⟩;have:=he w;simp only[execOp,h,h1,D];rw[Sem.run_bind,this];rfl
def aup{T aV:TypeId}{x y:Operand}{a b:Q}{r:Bool}(h:o.op=.binOp .neq T x y aV)(u:ev x=a)(ag:ev y=b)(MS:a.plain=true)(pb:b.plain=true)(he:∀w,(do eqGuard .neq T x y (valOf a) (valOf b);binOp .neq T (valOf a) (valOf b):Sem Value).run G.P w=.ok (.bool r) w):
  Yields G o ev σ [] [] (.bool r):=
 .pure λ_ _ I β w aZ _ _ hop=>by
  have h1:=hop x (by simp[h,Op.operands]);rw[u]at h1;have h1:=BB a _ MS h1
  have D:=hop y (by simp[h,Op.operands]);rw[ag]at D;have D:=BB b _ pb D
  refine⟨.bool r,?_,by simp[au,bc]⟩;have:=he w;simp only[execOp,h,h1,D];rw[Sem.run_bind,this];rfl
structure gM(P:Program)(T:TypeId)(f off:Nat):Prop where
 run:∀(a:Addr) w,(Instr.fieldAt T (.pointer (some a)) f).run P w=.ok (.pointer (some (a.add off))) w
def WI{I:bs}{b:Nat}:∀(k:Nat) (cs:List Q) (o:Nat),k4 I b cs o→k4 I b (cs.drop k) (o+k)
 |0,cs,o,h=>by simpa using h
 |k+1,[],o,h=>by simp[k4]
 |k+1,x::r,o,h=>by
  simp only[k4]at h;have:=WI k r (o+1) h.2;simpa [show o+1+k=o+(k+1)from by omega]using this
def at3{T:TypeId}{x:Operand}{f off d p:Nat}(h:o.op=.fieldAddr T x f)(u:ev x=.ptr d p)(bm:gM G.P T f off):Yields G o ev σ [] [] (.ptr d (p+off)):=
 .pure λ_ _ I β w aZ _ _ hop=>by
  have h1:=hop x (by simp[h,Op.operands]);rw[u]at h1
  simp only[au]at h1;obtain⟨b,h1,D⟩:=h1;refine⟨.pointer (some ⟨b,p+off,none⟩),?_,by simp only[au];exact⟨b,h1,rfl⟩⟩;simp[execOp,h,D,bm.run,mc]
def atX{T:TypeId}{x:Operand}{f off:Nat}{cs:List Q}(h:o.op=.fieldAddr T x f)(u:ev x=.fO cs)(bm:gM G.P T f off):Yields G o ev σ [] [] (.fO (cs.drop off)):=
 .pure λ_ _ I β w aZ _ _ hop=>by
  have h1:=hop x (by simp[h,Op.operands]);rw[u]at h1
  simp only[au,bc]at h1;obtain⟨b,p,h1,D⟩:=h1;refine⟨.pointer (some ⟨b,p+off,none⟩),?_,by simp only[au,bc];exact⟨b,p+off,rfl,WI off cs p D⟩⟩;simp[execOp,h,h1,bm.run,mc]
def Na{I:bs}{b:Nat}{w:World}(bu:∀b (o:Nat) v,I b o=some v→w.cell? ⟨b,o,none⟩=some v):∀(cs:List Q) (o:Nat),k4 I b cs o→
  ∃vs:dZ,cV I cs vs∧∀j v,vs[j]?=some v→w.cell? ⟨b,o+j,none⟩=some v
 |[],o,_=>⟨[],rfl,λj v h=>by simp at h⟩
 |x::r,o,h=>by
  simp only[k4]at h;obtain⟨⟨aA,h1,D⟩,aj⟩:=h;obtain⟨vs,a1,bU⟩:=Na bu r (o+1) aj;refine⟨aA::vs,⟨aA,vs,rfl,D,a1⟩,λj v aa=>?_⟩;cases j with
  |zero=>simp at aa;subst aa;exact bu _ _ _ h1
  |succ j=>
   have:=bU j v (by simpa using aa)
   rwa [show o+(j+1)=o+1+j from by omega]
mutual
def bc.rep{I:bs}(β:Nat→Value):∀(a:Q) (v:Value),bc I a v→au I β a v
 |.e9,_,_=>by simp[au]
 |.undef,_,h=>by simpa only[au]using h
 |.int _ _,_,h=>by simpa only[au]using h
 |.bool _,_,h=>by simpa only[au]using h
 |.str _,_,h=>by simpa only[au]using h
 |.bf _ _,_,h=>by simpa only[au]using h
 |.fO _,_,h=>by simpa only[au]using h
 |.c4,_,h=>by simpa only[au]using h
 |.nI,_,h=>by simpa only[au]using h
 |.eU _ _,_,h=>by simpa only[au]using h
 |.ko,_,h=>by simpa only[au]using h
 |.dw _,_,h=>by simpa only[au]using h
 |.arr _,_,h=>by simpa only[au]using h
 |.agg cs,v,h=>by
  simp only[bc,au]at h ⊢;obtain⟨vs,h1,D⟩:=h;exact⟨vs,h1,cV.rep β cs _ D⟩
 |.cI cs,v,h=>by
  simp only[bc,au]at h ⊢;obtain⟨vs,h1,D⟩:=h;exact⟨vs,h1,cV.rep β cs _ D⟩
 |.fn f cs,v,h=>by
  simp only[bc,au]at h ⊢;obtain⟨vs,h1,D⟩:=h;exact⟨vs,h1,cV.rep β cs _ D⟩
 |.own _,_,h=>by simp[bc]at h
 |.ptr _ _,_,h=>by simp[bc]at h
 |.fR _ _,_,h=>by simp[bc]at h
 |.dr _,_,h=>by simp[bc]at h
def cV.rep{I:bs}(β:Nat→Value):∀(a:List Q) (v:dZ),cV I a v→bW I β a v
 |[],_,h=>h
 |x::r,v,h=>by
  simp only[cV,bW]at h ⊢;obtain⟨aA,bI,h1,D,aj⟩:=h;exact⟨aA,bI,h1,bc.rep β x aA D,cV.rep β r bI aj⟩
end
def auT{T aV:TypeId}{x:Operand}{n d p:Nat}{dG:Bool}{cs:List Q}(h:o.op=.load T x)(u:ev x=.ptr d p)(Z:σ.get d=some (.cells aV cs))(aQ:dL G.P T n dG)(bM:(dG||Nat.blt 0 n)=true)(aR:Nat.ble (p+n) cs.length=true):
  Yields G o ev σ [] [d] (pg dG n (cs.drop p)):=
 .pure λaz cx I β w aZ cf an hop=>by
  have h1:=hop x (by simp[h,Op.operands]);rw[u]at h1
  simp only[au]at h1;obtain⟨b,h1,D⟩:=h1;obtain⟨arr,ak,ar,aM,_⟩:=an.box (by rw[cf d (by simp)];exact Z) h1;obtain⟨v,gJ,gA⟩:=HN aQ (λe=>by subst e;simpa using bM) (off:=p) ar aM (by simpa using aR);exact⟨v,by simp[execOp,h,D,Instr.loadAt,Instr.sureAddr,gJ],gA⟩
def auU{T:TypeId}{x:Operand}{n:Nat}{dG:Bool}{cs:List Q}(h:o.op=.load T x)(u:ev x=.fO cs)(aQ:dL G.P T n dG)(bM:(dG||Nat.blt 0 n)=true)(aR:Nat.ble n cs.length=true):
  Yields G o ev σ [] [] (pg dG n cs):=
 .pure λaz cx I β w aZ cf an hop=>by
  have h1:=hop x (by simp[h,Op.operands]);rw[u]at h1
  simp only[au,bc]at h1;obtain⟨b,p,h1,D⟩:=h1;obtain⟨vs,aj,a1⟩:=Na an.good cs p D;have aH:=qa _ _ aj;have aR:n≤cs.length:=by simpa using aR
  have pK:∀j,j<n→∃v,vs[j]?=some v∧w.cell? ⟨b,p+j,none⟩=some v:=λj aT=>by
   have pL:j<vs.length:=by omega
   exact⟨vs[j],List.getElem?_eq_getElem pL,a1 j _ (List.getElem?_eq_getElem pL)⟩
  refine⟨_,by simp only[execOp,h,h1,Instr.loadAt,Instr.sureAddr,Sem.run_bind,Sem.run_pure,Result.andThen_ok,Bi aQ pK (λe=>by subst e;simpa using bM)];rfl,?_⟩;have Z:=cV.rep β _ _ aj;cases dG with
  |true=>
   simp only[pg,cond_true,if_true,au];exact⟨_,rfl,by simpa using BA n _ _ Z⟩
  |false=>
   simp only[pg,cond_false,Bool.false_eq_true,if_false];cases cs with
   |nil=>simp[au]
   |cons x r=>
    simp only[bW]at Z;obtain⟨aA,bI,e,Z,_⟩:=Z;rw[e];exact Z
structure kV(P:Program)(T E n:Nat):Prop where
 gY:P.underlying T=some (.slice E)
 size:∀w,(sizeOf E).run P w=.ok n w
def Xc{I:bs}{b sz:Nat}:∀(xs:List (List Q)) (o i:Nat),(∀e∈xs,e.length=sz)→jC I b xs o→i<xs.length→k4 I b (xs.getD i []) (o+i*sz)
 |[],_,_,_,_,h=>by simp at h
 |e::r,o,0,_,h,_=>by simp only[jC]at h;simpa using h.1
 |e::r,o,i+1,aH,h,hi=>by
  simp only[jC]at h;have he:=aH e (by simp);have:=Xc r (o+e.length) i (λx u=>aH x (by simp[u])) h.2 (by simpa using hi);rw[he]at this;have e2:o+sz+i*sz=o+(i+1)*sz:=by rw[Nat.add_mul,Nat.one_mul];omega
  rw[e2]at this;simpa using this
def atI{α:Type}{T E:Nat}{x:Operand}{f:Bool}{rs:List α}{enc:α→List Q}{k}(h:o.op=.call ⟨.builtin .len,#[x],k⟩)(hk:k=#[T])(u:ev x=.bf f (rs.map enc))(aQ:G.P.underlying T=some (.slice E)):Yields G o ev σ [] [] (.int .i64 (rs.length:Int)):=
 .pure λaz cx I β w aZ cf an hop=>by
  subst hk;have h1:=hop x (by simp[h,Op.operands,Call.operands]);rw[u]at h1
  simp only[au,bc,length_map]at h1;obtain⟨a,c,h1,_⟩:=h1;have aJ:∀w,(underlying T).run G.P w=.ok (.slice E) w:=λw=>by simp[underlying,program,Sem.run,aQ]
  exact⟨.int .i64 rs.length,by simp[execOp,h,resolve,invoke,builtin,Builtin.len_,h1,aJ,goInt],by simp[au,bc]⟩
def aui{T E:Nat}{x:Operand}{k}(h:o.op=.call ⟨.builtin .len,#[x],k⟩)(hk:k=#[T])(u:ev x=.c4)(aQ:G.P.underlying T=some (.slice E)):Yields G o ev σ [] [] (.int .i64 0):=
 .pure λaz cx I β w aZ cf an hop=>by
  subst hk;have h1:=hop x (by simp[h,Op.operands,Call.operands]);rw[u]at h1
  simp only[au,bc]at h1;have aJ:∀w,(underlying T).run G.P w=.ok (.slice E) w:=λw=>by simp[underlying,program,Sem.run,aQ]
  exact⟨.int .i64 0,by simp[execOp,h,resolve,invoke,builtin,Builtin.len_,h1,aJ,goInt],by simp[au,bc]⟩
def auj{T:Nat}{x:Operand}{s:ByteArray}{k}(h:o.op=.call ⟨.builtin .len,#[x],k⟩)(hk:k=#[T])(u:ev x=.str s)(aQ:G.P.underlying T=some .string):Yields G o ev σ [] [] (.int .i64 (s.size:Int)):=
 .pure λaz cx I β w aZ cf an hop=>by
  subst hk;have h1:=hop x (by simp[h,Op.operands,Call.operands]);rw[u]at h1;have h1:=Q2 h1
  have aJ:∀w,(underlying T).run G.P w=.ok .string w:=λw=>by simp[underlying,program,Sem.run,aQ]
  exact⟨.int .i64 s.size,by simp[execOp,h,resolve,invoke,builtin,Builtin.len_,h1,aJ,goInt],by simp[au,bc]⟩
def Xd{G:ch}{cx:eW}{I:bs}{β:Nat→Value}{σ:Y}{w:World}(an:bY G cx I β σ w){d:Nat}{T sz k:Nat}{c5:Bool}{xs:List (List Q)}(Z:σ.get d=some (.slice T sz xs k c5)){v:Value}(aa:au I β (.own d) v):
  ∃a c,v=.slice a xs.length c∧xs.length≤c∧c≤maxLen:=by
 simp only[au]at aa;obtain⟨rfl,X⟩:=aa;have:=an.cw d _ Z;simp only[aY]at this;rcases this with h1|⟨h1,rfl,_⟩|⟨b,aO,arr,h1,D,aj,_⟩
 ·rw[h1]at X;simp[iD]at X
 ·exact⟨none,0,h1,by simp,by simp[maxLen]⟩
 ·exact⟨_,aO,h1,D,aj⟩
def auV{α:Type}{T E:Nat}{x:Operand}{d aV sz n:Nat}{c5:Bool}{rs:List α}{enc:α→List Q}{k}(h:o.op=.call ⟨.builtin .len,#[x],k⟩)(hk:k=#[T])(u:ev x=.own d)(Z:σ.get d=some (.slice aV sz (rs.map enc) n c5))(aQ:G.P.underlying T=some (.slice E)):Yields G o ev σ [] [d] (.int .i64 (rs.length:Int)):=
 .pure λaz cx I β w aZ cf an hop=>by
  subst hk;have h1:=hop x (by simp[h,Op.operands,Call.operands]);rw[u]at h1
  obtain⟨a,c,h1,_⟩:=Xd an (by rw[cf d (by simp)];exact Z) h1;have aJ:∀w,(underlying T).run G.P w=.ok (.slice E) w:=λw=>by simp[underlying,program,Sem.run,aQ]
  exact⟨.int .i64 rs.length,by simp[execOp,h,resolve,invoke,builtin,Builtin.len_,h1,aJ,goInt],by simp[au,bc]⟩
def IB{I:bs}{β:Nat→Value}:∀{xs:List Q} {vs:dZ} {j:Nat} {a:Q},bW I β xs vs→xs[j]?=some a→∃v,vs[j]?=some v∧au I β a v
 |[],_,_,_,_,h=>by simp at h
 |x::r,vs,0,a,h,aT=>by
  simp only[bW]at h;obtain⟨aA,bI,rfl,h1,_⟩:=h;simp at aT;subst aT
  exact⟨aA,by simp,h1⟩
 |x::r,vs,j+1,a,h,aT=>by
  simp only[bW]at h;obtain⟨aA,bI,rfl,_,D⟩:=h;obtain⟨v,aj,a1⟩:=IB D (by simpa using aT);exact⟨v,by simpa using aj,a1⟩
def bK.extract{x:Operand}{j:Nat}{vs:List Q}{a:Q}(h:o.op=.extract x j)(u:ev x=.cI vs)(aT:vs[j]?=some a):Yields G o ev σ [] [] a:=
 .pure λaz cx I β w aZ cf an hop=>by
  have h1:=hop x (by simp[h,Op.operands]);rw[u]at h1
  simp only[au]at h1;obtain⟨bI,h1,D⟩:=h1;obtain⟨v,aj,a1⟩:=IB D aT;have aj:bI[j]?=some v:=by simpa using aj
  exact⟨v,by simp[execOp,h,h1,Instr.extract,aj],a1⟩
def au0{x:Operand}{d p:Nat}(h:o.op=.nilCheck x)(u:ev x=.ptr d p):Yields G o ev σ [] [] (.ptr d p):=
 .pure λaz cx I β w aZ cf an hop=>by
  have h1:=hop x (by simp[h,Op.operands]);rw[u]at h1
  have D:=h1;simp only[au]at h1;obtain⟨b,_,h1⟩:=h1;exact⟨aZ x,by simp[execOp,h,h1],D⟩
def au1{x:Operand}{cs:List Q}(h:o.op=.nilCheck x)(u:ev x=.fO cs):Yields G o ev σ [] [] (.fO cs):=
 .pure λaz cx I β w aZ cf an hop=>by
  have h1:=hop x (by simp[h,Op.operands]);rw[u]at h1
  have D:=h1;simp only[au,bc]at h1;obtain⟨b,p,h1,_⟩:=h1;exact⟨aZ x,by simp[execOp,h,h1],D⟩
end ops
end
section
structure gK(w w':World)(b:Nat):Prop where
 block:∀k,k≠b→k<w.heap.size→w'.heap[k]?=w.heap[k]?
 size:w.heap.size≤w'.heap.size
 tape:w'.tape=w.tape
 os:w'.os=w.os
 output:w'.output=w.output
 drawn:w.drawn≤w'.drawn
def hC{w:World}{b:Nat}{x:Obj}(h:w.heap[b]?=some x):b<w.heap.size:=(Array.getElem?_eq_some_iff.1 h).1
def aY.keep{cx:eW}{I aU:bs}{β β':Nat→Value}{w w':World}{x:Nat}{o:cc}{b:Nat}(h:aY cx I β w x o)(hk:gK w w' b)(u:β' x=β x)(Tn:b∉c2 (β x))(hle:cn I aU)(g9:∀aP,aP≠b→∀o,aU aP o=I aP o)(cA:hp β β'):
  aY cx aU β' w' x o:=by
 have cb:b1 (β x)≠some b:=λe=>Tn (j8 e);cases o with
 |b9 cU=>
  simp only[aY,u]at h ⊢;rcases h with q|⟨X,ak,ar⟩
  ·exact .inl q
  ·refine .inr ⟨X,ak,ar.go hle λaP ha=>?_⟩;have U:aP≠b:=λe=>Tn (by rw[ak,←e];exact ha);exact⟨λbL=>hk.block aP U bL,g9 aP U,id⟩
 |gP T xs t=>
  simp only[aY,u]at h ⊢;rcases h with q|⟨aP,aO,arr,ak,ar,aM,aK,be,bJ,b8,cT,dD,eB,fm⟩
  ·exact .inl q
  ·have U:aP≠b:=λe=>cb (by rw[ak,e];rfl);have aJ:β' t=β t:=by
    rcases cA t with aJ|aJ
    ·exact absurd aJ dD
    ·exact aJ
   exact .inr ⟨aP,aO,arr,ak,ar,aM,(hk.block aP U (hC aK)).trans aK,be,nT hle _ _ bJ,b8,by rw[aJ];exact cT,by rw[aJ];exact dD,λo=>(g9 aP U o).trans (eB o),fm⟩
 |vec T xs=>
  simp only[aY,u]at h ⊢;rcases h with q|⟨aP,arr,ak,ar,aM,aK,be⟩
  ·exact .inl q
  ·have U:aP≠b:=λe=>cb (by rw[ak,e];rfl);exact .inr ⟨aP,arr,ak,(hk.block aP U (hC ar)).trans ar,aM,λo=>(g9 aP U o).trans (aK o),be⟩
 |jP es clock bH seen=>
  simp only[aY,u]at h ⊢;rcases h with q|⟨r,fx,ak,ar,aM,aK,be,bJ,b8⟩
  ·exact .inl q
  ·have U:r≠b:=λe=>cb (by rw[ak,e];rfl);exact .inr ⟨r,fx,ak,(hk.block r U (hC ar)).trans ar,hle _ _ _ aM,mS hle _ _ aK,be,λo=>(g9 r U o).trans (bJ o),b8⟩
 |eO T e n du=>
  simp only[aY,u]at h ⊢;rcases h with q|⟨aP,aO,arr,X,ak,ar,aM,aK,be,bJ,b8,cT,dD,eB⟩
  ·exact .inl q
  ·have U:aP≠b:=λe=>cb (by rw[ak,e];rfl);have aJ:β' e=β e:=by
    rcases cA e with aJ|aJ
    ·rw[aJ]at bJ;cases bJ
    ·exact aJ
   exact .inr ⟨aP,aO,arr,X,ak,ar,aM,(hk.block aP U (hC aK)).trans aK,be,by rw[aJ];exact bJ,b8,cT.hle cA,λo=>(g9 aP U o).trans (dD o),eB⟩
 |fc K E e keys du iK=>
  simp only[aY,u]at h ⊢;rcases h with q|⟨r,es,clock,X,cv,ak,ar,aM,aK,be,bJ,b8,cT⟩
  ·exact .inl q
  ·have U:r≠b:=λe=>cb (by rw[ak,e];rfl);have aJ:β' e=β e:=by
    rcases cA e with aJ|aJ
    ·rw[aJ]at aM;cases aM
    ·exact aJ
   exact .inr ⟨r,es,clock,X,cv,ak,(hk.block r U (hC ar)).trans ar,by rw[aJ];exact aM,aK.hle cA,be.mono hle,λo=>(g9 r U o).trans (bJ o),b8,cT⟩
 |cells T cs=>
  simp only[aY,u]at h ⊢;rcases h with q|⟨aP,arr,ak,ar,aM,aK,be⟩
  ·exact .inl q
  ·have U:aP≠b:=λe=>cb (by rw[ak,e];rfl);exact .inr ⟨aP,arr,ak,(hk.block aP U (hC ar)).trans ar,tW hle cA _ _ aM,λo=>(g9 aP U o).trans (aK o),be⟩
 |slice T sz xs k c5=>
  simp only[aY,u]at h ⊢;rcases h with q|q|⟨aP,aO,arr,ak,ar,aM,aK,be,bJ,b8,cT,dD,eB,fm⟩
  ·exact .inl q
  ·exact .inr (.inl q)
  ·have U:aP≠b:=λe=>cb (by rw[ak,e];rfl);exact .inr (.inr ⟨aP,aO,arr,ak,ar,aM,(hk.block aP U (hC aK)).trans aK,be,nT hle _ _ bJ,b8,cT,λhz o ai=>(g9 aP U o).trans (dD hz o ai),λo ai=>(g9 aP U o).trans (eB o ai),fm⟩)
 |win T sz xs=>
  simp only[aY,u]at h ⊢;rcases h with q|q|⟨aP,hx,aO,arr,ak,ar,aM,aK,be,bJ,b8,cT,dD⟩
  ·exact .inl q
  ·exact .inr (.inl q)
  ·have U:aP≠b:=λe=>cb (by rw[ak,e];rfl);exact .inr (.inr ⟨aP,hx,aO,arr,ak,ar,aM,(hk.block aP U (hC aK)).trans aK,be,zq hle _ _ _ bJ,b8,λhz o ai=>(g9 aP U o).trans (cT hz o ai),dD⟩)
 |map K E bH=>
  simp only[aY,u]at h ⊢;rcases h with q|⟨r,es,clock,ak,ar,aM,aK,be⟩
  ·exact .inl q
  ·have U:r≠b:=λe=>cb (by rw[ak,e];rfl);exact .inr ⟨r,es,clock,ak,(hk.block r U (hC ar)).trans ar,mS hle _ _ aM,λo=>(g9 r U o).trans (aK o),be⟩
 |kf K E bH=>
  simp only[aY,u]at h ⊢;rcases h with q|⟨r,es,clock,ak,ar,aM,aK⟩
  ·exact .inl q
  ·exact .inr ⟨r,es,clock,ak,hle _ _ _ ar,mS hle _ _ aM,aK⟩
 |gz es clock K E bH=>
  simp only[aY,u]at h ⊢;rcases h with q|⟨r,ak,ar,aM,aK,be⟩
  ·exact .inl q
  ·have U:r≠b:=λe=>cb (by rw[ak,e];rfl);exact .inr ⟨r,ak,(hk.block r U (hC ar)).trans ar,mS hle _ _ aM,λo=>(g9 r U o).trans (aK o),be⟩
 |iter cz q9 kW seen=>
  simp only[aY,u]at h ⊢;rcases h with q|⟨r,fx,ak,ar,aM,aK,be⟩
  ·exact .inl q
  ·have U:r≠b:=λe=>cb (by rw[ak,e];rfl);have MX:b1 (β' cz)=some fx:=by
    rcases cA cz with e|e
    ·rw[e]at ar;simp[b1]at ar
    ·rw[e];exact ar
   exact .inr ⟨r,fx,ak,MX,(hk.block r U (hC aM)).trans aM,λo=>(g9 r U o).trans (aK o),be⟩
 |hdr cz n=>
  simp only[aY,u]at h ⊢;obtain⟨ak,a,c,ar⟩:=h;rcases cA cz with e|e
  ·rw[e]at ar;cases ar
  ·exact⟨ak,a,c,by rw[e];exact ar⟩
def kC.at{cx:eW}{I:bs}{w:World}{x:gQ}{v:Value}(h:kC cx I w x v){b:Nat}(U:b1 v=some b):b<w.heap.size∧Place cx b:=by
 cases x with
 |sl T sz xs=>
  rcases h with⟨h,_⟩|⟨aP,aO,arr,h1,_,_,a1,_,_,_,_,iy⟩
  ·rw[h]at U;simp[b1]at U
  ·rw[h1]at U;simp[b1]at U;subst U;exact⟨hC a1,iy⟩
 |mp K E bH=>
  obtain⟨r,es,clock,h1,D,_,_,bU,_⟩:=h;rw[h1]at U;simp[b1]at U;subst U;exact⟨hC D,bU⟩
def hs.at{cx:eW}{I:bs}{w:World}:∀{cU:List gQ} {vs:dZ},hs cx I w cU vs→∀{b:Nat},b∈vs.filterMap b1→b<w.heap.size∧Place cx b
 |[],_,h,b,U=>by rw[show _=[]from h]at U;cases U
 |x::r,_,h,b,U=>by
  obtain⟨aA,bI,rfl,h1,_,aj⟩:=h;obtain⟨v,aa,e⟩:=List.mem_filterMap.1 U;rcases mem_cons.1 aa with rfl|aa
  ·exact h1.at e
  ·exact aj.at (List.mem_filterMap.2 ⟨v,aa,e⟩)
section turn
variable {G:ch}{cx:eW}{I:bs}{β:Nat→Value}{σ:Y}{w:World}
def bY.turn(h:bY G cx I β σ w){σ2:Y}{aU:bs}{β':Nat→Value}{w':World}{b d:Nat}(hk:gK w w' b)(aC:Place cx b)(tU:∀x,x≠d→σ2.get x=σ.get x)
  (qQ:∀x,x≠d→(σ.get x).isSome→b∉c2 (β x)) (hle:cn I aU) (g9:∀aP,aP≠b→∀o,aU aP o=I aP o) (zX:∀(o:Nat) v,aU b o=some v→w'.cell? ⟨b,o,none⟩=some v)
  (y9:aU b none=none) (lF:∀x,x≠d→β' x=β x) (akW:d∉G.ids∨β' d=β d) (cA:hp β β') (fL:b1 (β' d)=some b∨c2 (β' d)=[]) (ai:∀o,σ2.get d=some o→aY cx aU β' w' d o):bY G cx aU β' σ2 w' where
 good:=λaP o v aa=>by
  by_cases U:aP=b
  ·subst U;exact zX o v aa
  ·rw[g9 aP U]at aa;have h1:=h.good aP o v aa;have bL:aP<w.heap.size:=by
    have:=World.block_lt_of_cell? w _ h1;exact this
   rw[World.cell?_of_block (w:=w) (hk.block aP U bL)];exact h1
 hM:=λaP v aa=>by
  by_cases U:aP=b
  ·subst U;rw[y9]at aa;cases aa
  ·rw[g9 aP U]at aa;obtain⟨es,clock,h1,D⟩:=h.hM aP v aa;exact⟨es,clock,by rw[hk.block aP U (hC h1)];exact h1,D⟩
 jg:=h.jg.trans hle
 iV:=λaP U aR o=>by
  have:aP≠b:=λe=>by
   subst e;rcases aC with q|q
   ·omega
   ·exact aR q
  rw[g9 aP this];exact h.iV aP U aR o
 frame:=λaP U aR=>by
  have:aP≠b:=λe=>by
   subst e;rcases aC with q|q
   ·omega
   ·exact aR q
  rw[hk.block aP this (by have:=h.size;omega)];exact h.frame aP U aR
 size:=Nat.le_trans h.size hk.size
 tape:=hk.tape.trans h.tape
 os:=hk.os.trans h.os
 output:=hk.output.trans h.output
 drawn:=Nat.le_trans h.drawn hk.drawn
 cw:=λx o u=>by
  by_cases oH:x=d
  ·subst oH;exact ai o u
  ·rw[tU x oH]at u;exact(h.cw x o u).keep hk (lF x oH) (qQ x oH (by rw[u];rfl)) hle g9 cA
 dA:=λx y u ag cb aP=>by
  by_cases oH:x=d
  ·subst oH;rw[tU y (Ne.symm cb)]at ag;rw[lF y (Ne.symm cb)];intro e cB;rcases fL with q|q
   ·have:=ES q e;subst this;exact qQ y (Ne.symm cb) ag cB
   ·rw[q]at e;cases e
  ·rw[tU x oH]at u;rw[lF x oH];by_cases zk:y=d
   ·subst zk;intro e cB;rcases fL with q|q
    ·have:=ES q cB;subst this;exact qQ x oH u e
    ·rw[q]at cB;cases cB
   ·rw[tU y zk]at ag;rw[lF y zk];exact h.dA x y u ag cb aP
 keep:=λx u=>by
  by_cases oH:x=d
  ·subst oH;rcases akW with q|q
   ·exact absurd u q
   ·rw[q];exact h.keep x u
  ·rw[lF x oH];exact h.keep x u
def bY.Fj(h:bY G cx I β σ w){x:Nat}{o:cc}(u:σ.get x=some o){b:Nat}(yR:b∈c2 (β x)):b<w.heap.size∧Place cx b:=by
 have ai:=h.cw x o u;by_cases kH:∃cU,o=.b9 cU
 ·obtain⟨cU,rfl⟩:=kH;simp only[aY]at ai;rcases ai with q|⟨X,ak,ar⟩
  ·rw[q]at yR;cases yR
  ·rw[ak]at yR;exact ar.at yR
 have U:b1 (β x)=some b:=by
  cases aa:β x with
  |tuple vs=>
   exfalso;cases o<;>simp only[aY,aa]at ai<;>first|exact kH ⟨_,rfl⟩|(simp at ai)
  |_=>rw[aa]at yR;simpa [c2]using yR
 clear yR;cases o with
 |b9 cU=>exact absurd ⟨cU,rfl⟩ kH
 |gP T xs t=>
  simp only[aY]at ai;rcases ai with q|⟨aP,aO,arr,ak,_,_,aK,_,_,_,_,_,_,fm⟩
  ·rw[q]at U;simp[b1]at U
  ·rw[ak]at U;simp[b1]at U;subst U;exact⟨hC aK,fm⟩
 |vec T xs=>
  simp only[aY]at ai;rcases ai with q|⟨aP,arr,ak,ar,_,_,be⟩
  ·rw[q]at U;simp[b1]at U
  ·rw[ak]at U;simp[b1]at U;subst U;exact⟨hC ar,be⟩
 |jP es clock bH seen=>
  simp only[aY]at ai;rcases ai with q|⟨r,fx,ak,ar,_,_,_,_,b8⟩
  ·rw[q]at U;simp[b1]at U
  ·rw[ak]at U;simp[b1]at U;subst U;exact⟨hC ar,b8⟩
 |eO T e n du=>
  simp only[aY]at ai;rcases ai with q|⟨aP,aO,arr,X,ak,_,_,aK,_,_,_,_,_,eB⟩
  ·rw[q]at U;simp[b1]at U
  ·rw[ak]at U;simp[b1]at U;subst U;exact⟨hC aK,eB⟩
 |fc K E e keys du iK=>
  simp only[aY]at ai;rcases ai with q|⟨r,es,clock,X,cv,ak,ar,_,_,_,_,b8,_⟩
  ·rw[q]at U;simp[b1]at U
  ·rw[ak]at U;simp[b1]at U;subst U;exact⟨hC ar,b8⟩
 |cells T cs=>
  simp only[aY]at ai;rcases ai with q|⟨aP,arr,ak,ar,_,_,be⟩
  ·rw[q]at U;simp[b1]at U
  ·rw[ak]at U;simp[b1]at U;subst U;exact⟨hC ar,be⟩
 |slice T sz xs k c5=>
  simp only[aY]at ai;rcases ai with q|⟨q,_⟩|⟨aP,aO,arr,ak,_,_,aK,_,_,_,_,_,_,fm⟩
  ·rw[q]at U;simp[b1]at U
  ·rw[q]at U;simp[b1]at U
  ·rw[ak]at U;simp[b1]at U;subst U;exact⟨hC aK,fm⟩
 |win T sz xs=>
  simp only[aY]at ai;rcases ai with q|⟨q,_⟩|⟨aP,hx,aO,arr,ak,_,_,aK,_,_,_,_,dD⟩
  ·rw[q]at U;simp[b1]at U
  ·rw[q]at U;simp[b1]at U
  ·rw[ak]at U;simp[b1]at U;subst U;exact⟨hC aK,dD⟩
 |map K E bH=>
  simp only[aY]at ai;rcases ai with q|⟨r,es,clock,ak,ar,_,_,be,_⟩
  ·rw[q]at U;simp[b1]at U
  ·rw[ak]at U;simp[b1]at U;subst U;exact⟨hC ar,be⟩
 |kf K E bH=>
  simp only[aY]at ai;rcases ai with q|⟨r,es,clock,ak,ar,_,be,_⟩
  ·rw[q]at U;simp[b1]at U
  ·rw[ak]at U;simp[b1]at U;subst U
   obtain⟨_,_,h1,_⟩:=h.hM _ _ ar;exact⟨hC h1,be⟩
 |gz es clock K E bH=>
  simp only[aY]at ai;rcases ai with q|⟨r,ak,ar,_,_,be,_⟩
  ·rw[q]at U;simp[b1]at U
  ·rw[ak]at U;simp[b1]at U;subst U;exact⟨hC ar,be⟩
 |iter cz q9 kW seen=>
  simp only[aY]at ai;rcases ai with q|⟨r,fx,ak,_,aM,_,be⟩
  ·rw[q]at U;simp[b1]at U
  ·rw[ak]at U;simp[b1]at U;subst U;exact⟨hC aM,be⟩
 |hdr cz n=>
  simp only[aY]at ai;rw[ai.1]at U;simp[b1]at U
def bY.sL(h:bY G cx I β σ w){x:Nat}{o:cc}(u:σ.get x=some o){b:Nat}(U:b∈c2 (β x)):b<w.heap.size:=(h.Fj u U).1
def bY.iF(h:bY G cx I β σ w){b:Nat}(U:w.heap.size≤b)(o:ku):I b o=none:=by
 cases aa:I b o with
 |none=>rfl
 |some v=>
  cases o with
  |none=>
   obtain⟨es,clock,h1,_⟩:=h.hM b v aa;have:=hC h1;omega
  |some o=>
   have:=World.block_lt_of_cell? w _ (h.good b o v aa);simp at this;omega
def bY.Yq(h:bY G cx I β σ w){b:Nat}{o:Obj}(U:w.heap[b]?=some o)(aR:∀es c,o≠.map es c):I b none=none:=by
 cases aa:I b none with
 |none=>rfl
 |some v=>
  obtain⟨es,clock,h1,_⟩:=h.hM b v aa;rw[U]at h1;cases h1
  exact absurd rfl (aR es clock)
def bY.tu(h:bY G cx I β σ w){b:Nat}{arr:iY}{T:TypeId}{c5:Nat×Nat}(U:w.heap[b]?=some (.cells arr T c5)):I b none=none:=h.Yq U λ_ _=>by simp
def gK.alloc(w:World)(o:Obj):gK w (w.alloc o) w.heap.size:=
 ⟨λk _ bL=>heap_alloc_old w o k bL,by simp,rfl,rfl,rfl,Nat.le_refl _⟩
def gK.setRow(w:World)(g:Nat)(cs:iY):gK w (w.setRow g cs) g:=
 ⟨λk hk _=>setRow_other w g k cs hk,by simp,rfl,rfl,rfl,Nat.le_refl _⟩
def gK.drew{w w':World}{b:Nat}(h:gK w.drew w' b):gK w w' b:=⟨h.block,h.size,h.tape,h.os,h.output,Nat.le_trans (Nat.le_succ _) h.drawn⟩
def g7(β:Nat→Value)(d:Nat)(v:Value):Nat→Value:=λx=>if x=d then v else β x
def gL(β:Nat→Value)(d:Nat)(v:Value):g7 β d v d=v:=by simp[g7]
def g5(β:Nat→Value){d x:Nat}(v:Value)(h:x≠d):g7 β d v x=β x:=by simp[g7,h]
def asV{β:Nat→Value}{d:Nat}{v:Value}(h:β d=.nilFunc):hp β (g7 β d v):=λx=>by
 by_cases u:x=d
 ·subst u;exact .inl h
 ·exact .inr (g5 β v u)
def bY.real(h:bY G cx I β σ w){d:Nat}(Z:d∉G.ids)(aR:β d=.nilFunc){o:Obj}{v:Value}(aa:b1 v=some w.heap.size)(ai:∀aX,σ.get d=some aX→aY cx I (g7 β d v) (w.alloc o) d aX):
  bY G cx I (g7 β d v) σ (w.alloc o):=
 h.turn (gK.alloc w o) (.inl h.size) (λ_ _=>rfl) (λx u X e=>by
   obtain⟨aX,X⟩:=Option.isSome_iff_exists.1 X;exact absurd (h.sL X e) (by omega)) (cn.refl I) (λ_ _ _=>rfl) (λhx dF ob=>by rw[h.iF (Nat.le_refl _)]at ob;cases ob) (h.iF (Nat.le_refl _) none)
  (λx u=>g5 β v u) (.inl Z) (asV aR) (.inl (by rw[gL];exact aa)) ai
def bY.lay(h:bY G cx I β σ w)(vs:iY)(E:TypeId):∃aU,cn I aU∧(∀(o:Nat) v,vs[o]?=some v→aU w.heap.size o=some v)∧bY G cx aU β σ (w.alloc (.cells vs E)):=by
  let aU:bs:=I.on λb o=>if b=w.heap.size then vs[o]? else I b o
  have hle:cn I aU:=λb o v aa=>by
    cases o with
    |none=>exact aa
    |some o=>
    show(if b=w.heap.size then vs[o]? else I b o)=some v;split
    · rename_i e;subst e;rw[h.iF (Nat.le_refl _)]at aa;cases aa
    · exact aa
  refine⟨aU,hle,λo v aa=>by show(if _ then _ else _)=_;rw[if_pos rfl];exact aa,?_⟩;have yU:∃d,σ.get d=none:=by
    have:∀(l:Y),∃n,∀m,n≤m→l.get m=none:=by
      intro l;induction l with
      |nil=>exact⟨0,λ_ _=>rfl⟩
      |cons x r bg=>
        obtain⟨n,aR⟩:=bg;obtain⟨k,v⟩:=x;exact⟨max n (k+1),λm hm=>by rw[asw,if_neg (by omega)];exact aR m (by omega)⟩
    obtain⟨n,aR⟩:=this σ;exact⟨n,aR n (Nat.le_refl n)⟩
  obtain⟨d,Z⟩:=yU
  refine{good:=λaP o v aa=>?_,hM:=λaP v aa=>?_,jg:=h.jg.trans hle,iV:=λaP U aR o=>?_,frame:=λaP U aR=>?_,size:=Nat.le_trans h.size (by simp),tape:=h.tape,os:=h.os,output:=h.output,drawn:=h.drawn,
         cw:=λx o u=>?_,dA:=h.dA,keep:=h.keep}
  · change (if aP=w.heap.size then vs[o]? else I aP o)=some v at aa
    split at aa
    · rename_i e;subst e
      rw[World.cell?_alloc_new];exact aa
    · have h1:=h.good aP o v aa
      have bL:=World.block_lt_of_cell? w _ h1;rw[World.cell?_alloc_lt w _ _ bL];exact h1
  · obtain⟨es,clock,h1,D⟩:=h.hM aP v aa
    exact⟨es,clock,by rw[heap_alloc_old w _ aP (hC h1)];exact h1,D⟩
  · have:aP≠w.heap.size:=by have:=h.size;omega
    cases o with
    |none=>exact h.iV aP U aR none
    |some o=>
    show(if aP=w.heap.size then vs[o]? else I aP o)=_;rw[if_neg this];exact h.iV aP U aR o
  · rw[heap_alloc_old w _ aP (by have:=h.size;omega)]
    exact h.frame aP U aR
  · refine(h.cw x o u).keep (b:=w.heap.size) (gK.alloc w _) rfl (λe=>absurd (h.sL u e) (by omega)) hle (λaP U o=>?_) (hp.refl β)
    cases o with
    |none=>rfl
    |some o=>
    show(if aP=w.heap.size then vs[o]? else I aP o)=_;rw[if_neg U]
end turn
def pI:Q→List Q
 |.agg cs=>cs
 |a=>[a]
def ot.one:ot→Bool
 |.row _=>false
 |_=>true
def Q.one:Q→Bool
 |.int _ _=>true|.bool _=>true|.str _=>true|.bf _ _=>true|.fO _=>true|.fn _ _=>true|.c4=>true|.nI=>true|.own _=>true|.ptr _ _=>true|.dr _=>true|.eU _ _=>true|.ko=>true|.fR k _=>k.one|.dw _=>true
 |_=>false
def atw{I:bs}{β:Nat→Value}{a:Q}{v:Value}(h:a.one=true)(aB:au I β a v):v.oneCell'=true∧v.cells=#[v]:=by
 cases a<;>simp only[Q.one]at h<;>first|cases h|skip
 all_goals simp only[au,bc]at aB
 all_goals first
  |(subst aB;exact⟨rfl,rfl⟩)
  |(obtain⟨_,_,rfl,_⟩:=aB;exact⟨rfl,rfl⟩)
  |(obtain⟨_,_,_,rfl,_⟩:=aB;exact⟨rfl,rfl⟩)
  |(obtain⟨_,rfl,_⟩:=aB;exact⟨rfl,rfl⟩)
  |(rename_i k d;cases k<;>simp only[ot.one]at h<;>first|cases h|skip
    all_goals simp only[ot.rep]at aB
    all_goals first|(obtain⟨b,U,rfl⟩:=aB;exact⟨rfl,rfl⟩)|(obtain⟨_,_,_,_,_,_,rfl⟩:=aB;exact⟨rfl,rfl⟩))
  |(obtain⟨_,_,rfl⟩:=aB;exact⟨rfl,rfl⟩)
  |(obtain⟨rfl,D⟩:=aB
    rename_i d;cases U:β d<;>rw[U]at D<;>first|(simp[iD]at D;done)|(simp[mJ]at D;done)|exact⟨rfl,rfl⟩)
def Q.flat:Q→Bool
 |.agg cs=>cs.all Q.one
 |a=>a.one
def N7{I:bs}{β:Nat→Value}:∀(cs:List Q) (vs:dZ),cs.all Q.one=true→bW I β cs vs→∀v∈vs,v.oneCell'=true
 |[],vs,_,h=>by simp only[bW]at h;subst h;simp
 |x::r,vs,af,h=>by
  simp only[bW]at h;simp only[all_cons,Bool.and_eq_true]at af;obtain⟨aA,bI,rfl,h1,D⟩:=h;intro v aa;rcases mem_cons.1 aa with rfl|aa
  ·exact(atw af.1 h1).1
  ·exact N7 r bI af.2 D v aa
def ate{I:bs}{β:Nat→Value}{a:Q}{v:Value}(h:a.flat=true)(aB:au I β a v):bW I β (pI a) v.cells.toList∧∀aA∈v.cells.toList,aA.oneCell'=true:=by
 by_cases ay:∃cs,a=.agg cs
 ·obtain⟨cs,rfl⟩:=ay;simp only[au]at aB;obtain⟨vs,rfl,aB⟩:=aB;simp only[Q.flat]at h;exact⟨aB,N7 cs _ h aB⟩
 ·have h1:a.one=true:=by cases a<;>first|exact h|exact absurd ⟨_,rfl⟩ ay
  have D:pI a=[a]:=by cases a<;>first|rfl|exact absurd ⟨_,rfl⟩ ay
  obtain⟨aj,a1⟩:=atw h1 aB;rw[D,a1];exact⟨⟨v,[],rfl,aB,rfl⟩,by simpa using aj⟩
section ops
variable {G:ch}{o:Oper}{ev:Operand→Q}{σ:Y}
def bK.alloc{T d:Nat}{zs:dZ}(h:o.op=.alloc T)(hz:∀w,∃z,(zeroValue T).run G.P w=.ok z w∧z.cells=zs.toArray)(hi:G.ids.contains d=false):
  Yields G o ev ((d,.cells T (rU zs))::σ) [d] [d] (.ptr d 0):=by
 intro az cx I β w aZ cf an hm hop;obtain⟨z,i4,h9⟩:=hz w;have eY:(execOp aZ o).run G.P w=.ok (.value (.pointer (some ⟨w.heap.size,0,none⟩))) (w.alloc (.cells zs.toArray T)):=by
  simp[execOp,h,Instr.alloc,i4,newVar,newRow,h9]
 rw[eY];have lF:=hm d (by simp);refine⟨I,g7 β d (.pointer (some ⟨w.heap.size,0,none⟩)),by simp only[au];exact⟨w.heap.size,by rw[gL];rfl,rfl⟩,?_,cn.refl I,λx u=>g5 β _ (λe=>u (by simp[e]))⟩;refine an.real (by simpa using hi) lF rfl λaX cC=>?_;rw[cf d (by simp),asw,if_pos rfl]at cC;injection cC with cC
 subst cC;simp only[aY,gL];exact .inr ⟨w.heap.size,zs.toArray,rfl,heap_alloc_new w _,by simpa using Ig I _ zs,λo=>an.iF (Nat.le_refl _) o,.inl an.size⟩
def bK.box{T d:Nat}{x:Operand}{a:Q}{cs:List Q}(h:o.op=.box T x)(u:ev x=a)(bm:a.flat=true)(af:pI a=cs)(aB:a.refs (Nat.beq d)=false)(hi:G.ids.contains d=false):
  Yields G o ev ((d,.cells T cs)::σ) [d] [d] (.ptr d 0):=by
 intro az cx I β w aZ cf an hm hop;have cH:=hop x (by simp[h,Op.operands]);rw[u]at cH;have eY:(execOp aZ o).run G.P w=.ok (.value (.pointer (some ⟨w.heap.size,0,none⟩))) (w.alloc (.cells (aZ x).cells T)):=by
  simp[execOp,h,Instr.box,newVar,newRow]
 rw[eY];have lF:=hm d (by simp);refine⟨I,g7 β d (.pointer (some ⟨w.heap.size,0,none⟩)),by simp only[au];exact⟨w.heap.size,by rw[gL];rfl,rfl⟩,?_,cn.refl I,λx u=>g5 β _ (λe=>u (by simp[e]))⟩;refine an.real (by simpa using hi) lF rfl λaX cC=>?_;rw[cf d (by simp),asw,if_pos rfl]at cC;injection cC with cC
 subst cC;simp only[aY,gL];refine .inr ⟨w.heap.size,(aZ x).cells,rfl,heap_alloc_new w _,?_,λo=>an.iF (Nat.le_refl _) o,.inl an.size⟩;have:=(ate bm cH).1;rw[af]at this;exact tW (cn.refl I) (asV lF) _ _ this
structure kE(P:Program)(T:TypeId)(zs:List Value)(fG:List (Nat×Nat)):Prop where
 run:∀(parts:Array (Nat×Value)) (cells:iY) w,Instr.fill (λi=>fG[i]?) zs.toArray parts.toList=some cells→(Instr.build T parts).run P w=.ok (.agg cells) w
def m5{P:Program}{T:TypeId}{mB:Array Field}{zs:dZ}{fG:List (Nat×Nat)}(hz:∀w,(zeroValue T).run P w=.ok (.agg zs.toArray) w)(hu:P.underlying T=some (.struct mB))
  (aC:∀w,(mB.mapM λf=>do pure (f.offset,←sizeOf f.type):Sem (Array (Nat×Nat))).run P w=.ok fG.toArray w):kE P T zs fG where
 run:=λparts cells w h=>by
  have b3:Instr.fill (fG.toArray[·]?) zs.toArray parts.toList=some cells:=by
   rw[←h];congr 1;funext i;simp
  unfold Instr.build;simp only[Sem.run_bind,hz,Result.andThen_ok,run_underlying hu,aC,Value.cells];simp only[b3];rfl
def iZ{α:Type}(L:List α)(off:Nat)(cs:List α):List α:=L.take off++cs++L.drop (off+cs.length)
def x5(fG:List (Nat×Nat))(cells:List Q):List (Nat×Q)→Option (List Q)
 |[]=>some cells
 |(i,a)::ij=>match fG[i]? with
  |none=>none
  |some (off,size)=>bif Nat.beq (pI a).length size&&Nat.ble (off+(pI a).length) cells.length&&a.flat then x5 fG (iZ cells off (pI a)) ij else none
def PB(cs:dZ):∀(k off:Nat) (L:iY),off+k+cs.length≤L.size→((cs.zipIdx k).foldl (λ(yw:iY) (x:Value×Nat)=>yw.setIfInBounds (off+x.2) x.1) L).toList=L.toList.take (off+k)++cs++L.toList.drop (off+k+cs.length):=by
 induction cs with
 |nil=>intro k off L h;simp
 |cons c r bg=>
  intro k off L h;simp only[zipIdx_cons,foldl_cons];have:=bg (k+1) off (L.setIfInBounds (off+k) c) (by simp at h ⊢;omega);rw[this];have e:=list_seg_step L.toList (off+k) c r (by simp at h ⊢;omega);simpa [Array.toList_setIfInBounds,Nat.add_assoc]using e
def rF{I:bs}{β:Nat→Value}:∀(xs bx:List Q) (bI vs:dZ),bW I β xs bI→bW I β bx vs→bW I β (xs++bx) (bI++vs)
 |[],bx,bI,vs,h,b3=>by simp only[bW]at h;subst h;simpa using b3
 |x::r,bx,bI,vs,h,b3=>by
  simp only[bW]at h;obtain⟨aA,s7,rfl,h1,D⟩:=h;simp only[cons_append,bW];exact⟨aA,s7++vs,rfl,h1,rF r bx s7 vs D b3⟩
def Qf{I:bs}{β:Nat→Value}(fG:List (Nat×Nat)):∀(parts:List (Nat×Q)) (fU:List (Nat×Value)) (cells:List Q) (L:iY) (cL:List Q),bW I β cells L.toList→
  (parts.length=fU.length∧∀(j:Nat) (p:Nat×Q) (q:Nat×Value),parts[j]?=some p→fU[j]?=some q→p.1=q.1∧au I β p.2 q.2)→x5 fG cells parts=some cL→∃r,Instr.fill (λi=>fG[i]?) L fU=some r∧bW I β cL r.toList
 |[],fU,cells,L,cL,h,aa,bm=>by
  have:fU=[]:=eq_nil_of_length_eq_zero aa.1.symm;subst this;simp only[x5,Option.some.injEq]at bm;subst bm;exact⟨L,rfl,h⟩
 |(i,a)::ij,fU,cells,L,cL,h,aa,bm=>by
  cases fU with
  |nil=>simp at aa
  |cons q vs=>
   obtain⟨G7,v⟩:=q;have bM:=aa.2 0 _ _ rfl rfl;simp only at bM;obtain⟨rfl,kD⟩:=bM;simp only[x5]at bm;cases aC:fG[i]? with
   |none=>rw[aC]at bm;cases bm
   |some os=>
    obtain⟨off,size⟩:=os;rw[aC]at bm;simp only at bm;cases af:(Nat.beq (pI a).length size&&Nat.ble (off+(pI a).length) cells.length&&a.flat)with
    |false=>rw[af]at bm;simp at bm
    |true=>
     rw[af]at bm;simp only[cond_true]at bm;simp only[Bool.and_eq_true,Nat.beq_eq,Nat.ble_eq]at af;obtain⟨⟨bl,b2⟩,c9⟩:=af;obtain⟨d1,d2⟩:=ate c9 kD;have dl:=sx _ _ d1;have alg:=sx _ _ h;simp only[Array.length_toList]at dl alg;simp only[Instr.fill,aC];rw[if_neg (show ¬((decide (v.cells.size≠size)||decide (off+v.cells.size>L.size))=true)from by simp;omega)];refine Qf fG ij vs _ _ cL ?_ ⟨by simpa using aa.1,λj p q aT bV=>aa.2 (j+1) p q (by simpa using aT) (by simpa using bV)⟩ bm;have e:=PB v.cells.toList 0 off L (by simp;omega)
     have e2:(v.cells.zipIdx.foldl (λcs (x:Value×Nat)=>cs.setIfInBounds (off+x.2) x.1) L)=((v.cells.toList.zipIdx 0).foldl (λ(yw:iY) (x:Value×Nat)=>yw.setIfInBounds (off+x.2) x.1) L):=by
      rw[←Array.foldl_toList,Array.toList_zipIdx]
     rw[e2,e];simp only[Nat.add_zero,iZ];refine rF _ _ _ _ (rF _ _ _ _ (BA _ _ _ h) d1) ?_;have:=Bz (off+(pI a).length) _ _ h;have kU:v.cells.toList.length=(pI a).length:=by simpa using dl
     rw[kU];exact this
def bK.build{T:TypeId}{parts:Array (Nat×Operand)}{zs:dZ}{fG:List (Nat×Nat)}{cs:List Q}(h:o.op=.build T parts)(aQ:kE G.P T zs fG)
  (bm:x5 fG (rU zs) (parts.toList.map λp=>(p.1,ev p.2))=some cs):Yields G o ev σ [] [] (.agg cs):=
 .pure λaz cx I β w aZ cf an hop=>by
  have h1:∀p∈parts.toList,au I β (ev p.2) (aZ p.2):=λp aC=>hop p.2 (by simp only[h,Op.operands];simpa using ⟨p.1,by simpa using aC⟩)
  obtain⟨r,D,aj⟩:=Qf fG (parts.toList.map λp=>(p.1,ev p.2)) (parts.toList.map λp=>(p.1,aZ p.2)) (rU zs) zs.toArray cs (by simpa using Ig I β zs)
   ⟨by simp,λj p q aT bV=>by
    simp only[List.getElem?_map]at aT bV;cases u:parts.toList[j]? with
    |none=>rw[u]at aT;cases aT
    |some y=>
     rw[u]at aT bV;simp only[Option.map_some,Option.some.injEq]at aT bV;subst aT bV;exact⟨rfl,h1 y (List.mem_of_getElem? u)⟩⟩ bm
  refine⟨.agg r,?_,by simp only[au];exact⟨r,rfl,aj⟩⟩;have:(Instr.build T (parts.map λ(i,x)=>(i,aZ x))).run G.P w=.ok (.agg r) w:=aQ.run _ r w (by simpa using D);simp[execOp,h,this]
structure ml(P:Program)(T E sz:Nat)(zs:List Value):Prop where
 gY:P.underlying T=some (.slice E)
 size:∀w,(sizeOf E).run P w=.ok sz w
 zero:∀w,∃z,(zeroValue E).run P w=.ok z w∧z.cells=zs.toArray
 asu:zs.length=sz
def zo{sz:Nat}:∀(xs:List (List Q)),(∀e∈xs,e.length=sz)→xs.flatten.length=xs.length*sz
 |[],_=>by simp
 |e::r,h=>by
  simp only[flatten_cons,length_append,length_cons,h e (by simp),zo r (λx u=>h x (by simp[u]))];rw[Nat.add_mul];omega
def u6(sz:Nat):Nat→List (Nat×Q)→Option (List (List Q))
 |_,[]=>some []
 |k,(i,a)::r=>bif Nat.beq i k&&Nat.beq (pI a).length sz&&a.flat then(u6 sz (k+1) r).map (pI a::·)else none
def EF{I:bs}{β:Nat→Value}(sz:Nat):∀(parts:List (Nat×Q)) (fU:List (Nat×Value)) (k:Nat) (L:iY) (cL:List (List Q)),
  (parts.length=fU.length∧∀(j:Nat) (p:Nat×Q) (q:Nat×Value),parts[j]?=some p→fU[j]?=some q→p.1=q.1∧au I β p.2 q.2)→u6 sz k parts=some cL→(k+parts.length)*sz≤L.size→
  ∃r bI,Instr.fill (λi=>some (i*sz,sz)) L fU=some r∧r.size=L.size∧r.toList=L.toList.take (k*sz)++bI++L.toList.drop ((k+parts.length)*sz)∧bW I β cL.flatten bI∧(∀e∈cL,e.length=sz)∧cL.length=parts.length
 |[],fU,k,L,cL,aa,bm,_=>by
  have:fU=[]:=eq_nil_of_length_eq_zero aa.1.symm;subst this;simp only[u6,Option.some.injEq]at bm;subst bm;exact⟨L,[],rfl,rfl,by simp,by simp[bW],by simp,rfl⟩
 |(i,a)::ij,fU,k,L,cL,aa,bm,lE=>by
  cases fU with
  |nil=>simp at aa
  |cons q vs=>
   obtain⟨G7,v⟩:=q;have bM:=aa.2 0 _ _ rfl rfl;simp only at bM;obtain⟨rfl,kD⟩:=bM;simp only[u6]at bm;cases af:(Nat.beq i k&&Nat.beq (pI a).length sz&&a.flat)with
   |false=>rw[af]at bm;simp at bm
   |true=>
    rw[af]at bm;simp only[cond_true,Option.map_eq_some_iff]at bm;obtain⟨alG,bm,rfl⟩:=bm;simp only[Bool.and_eq_true,Nat.beq_eq]at af;obtain⟨⟨rfl,bl⟩,c9⟩:=af;obtain⟨d1,d2⟩:=ate c9 kD;have dl:=sx _ _ d1;simp only[Array.length_toList]at dl;have yT:i*sz+sz≤L.size:=by
     have:(i+1)*sz≤(i+((i,a)::ij).length)*sz:=Nat.mul_le_mul_right _ (by simp);rw[Nat.add_mul,Nat.one_mul]at this;omega
    have e:=PB v.cells.toList 0 (i*sz) L (by simp;omega)
    have e2:(v.cells.zipIdx.foldl (λcs (x:Value×Nat)=>cs.setIfInBounds (i*sz+x.2) x.1) L)=((v.cells.toList.zipIdx 0).foldl (λ(yw:iY) (x:Value×Nat)=>yw.setIfInBounds (i*sz+x.2) x.1) L):=by
     rw[←Array.foldl_toList,Array.toList_zipIdx]
    simp only[Instr.fill];rw[if_neg (show ¬((decide (v.cells.size≠sz)||decide (i*sz+v.cells.size>L.size))=true)from by simp;omega)];rw[e2];generalize aqk:((v.cells.toList.zipIdx 0).foldl (λ(yw:iY) (x:Value×Nat)=>yw.setIfInBounds (i*sz+x.2) x.1) L)=w1 at e;have Vw:w1.size=L.size:=by
     rw[←Array.length_toList,e];simp;omega
    obtain⟨r,bI,gJ,gA,mM,pr,wE,vp⟩:=EF sz ij vs (i+1) w1 alG ⟨by simpa using aa.1,λj p q aT bV=>aa.2 (j+1) p q (by simpa using aT) (by simpa using bV)⟩ bm (by rw[Vw];simp at lE;rw[show i+1+ij.length=i+(ij.length+1)from by omega];exact lE);refine⟨r,v.cells.toList++bI,gJ,gA.trans Vw,?_,?_,?_,by simp[vp]⟩
    ·rw[mM,e];have L6:(i+1)*sz=i*sz+sz:=by rw[Nat.add_mul,Nat.one_mul]
     have o9:(L.toList.take (i*sz+0)).length=i*sz:=by simp;omega
     have ji:(L.toList.take (i*sz+0)++v.cells.toList).length=(i+1)*sz:=by rw[length_append,o9,L6];simp;omega
     rw[take_append_of_le_length (by rw[ji];exact Nat.le_refl _),←ji,take_length];have Z:List.drop ((i+1+ij.length)*sz) (L.toList.take (i*sz+0)++v.cells.toList++L.toList.drop (i*sz+0+v.cells.toList.length))=L.toList.drop ((i+((i,a)::ij).length)*sz):=by
      rw[drop_append,ji,drop_drop];have:(i+1)*sz≤(i+1+ij.length)*sz:=Nat.mul_le_mul_right _ (by omega);rw[drop_of_length_le (by rw[ji];exact this),nil_append];congr 1;simp only[Array.length_toList,length_cons];rw[show i+(ij.length+1)=i+1+ij.length from by omega];omega
     rw[Z];simp[List.append_assoc]
    ·simp only[flatten_cons];exact rF _ _ _ _ d1 pr
    ·intro e he;rcases mem_cons.1 he with rfl|he
     ·exact bl
     ·exact wE e he
def bK.buildSlice{T E sz len:Nat}{parts:Array (Nat×Operand)}{zs:dZ}{xs:List (List Q)}(h:o.op=.buildSlice T len parts)(aQ:ml G.P T E sz zs)(aH:parts.size=len)(X:len*sz≤65536∧len≤65536)
  (bm:u6 sz 0 (parts.toList.map λp=>(p.1,ev p.2))=some xs) (af:lT xs.flatten=true):Yields G o ev σ [] [] (.bf true xs):=by
 intro az cx I β w aZ cf an hm hop;have h1:∀p∈parts.toList,au I β (ev p.2) (aZ p.2):=λp aC=>hop p.2 (by simp only[h,Op.operands];simpa using ⟨p.1,by simpa using aC⟩);obtain⟨z,i4,h9⟩:=aQ.zero w
 let L:iY:=(Array.range (len*sz)).map ((if len*sz=0 then #[]else z.cells)[·%(if len*sz=0 then #[]else z.cells:iY).size]!)
 have tE:L.size=len*sz:=by simp[L]
 obtain⟨r,bI,gJ,gA,mM,pr,wE,vp⟩:=EF (I:=I) (β:=β) sz (parts.toList.map λp=>(p.1,ev p.2)) (parts.toList.map λp=>(p.1,aZ p.2)) 0 L xs
  ⟨by simp,λj p q aT bV=>by
   simp only[List.getElem?_map]at aT bV;cases u:parts.toList[j]? with
   |none=>rw[u]at aT;cases aT
   |some y=>
    rw[u]at aT bV;simp only[Option.map_some,Option.some.injEq]at aT bV;subst aT bV;exact⟨rfl,h1 y (List.mem_of_getElem? u)⟩⟩ bm (by simp[tE,aH])
 have xB:r.toList=bI:=by
  rw[mM];have mT:L.toList.drop ((0+(parts.toList.map λp=>(p.1,ev p.2)).length)*sz)=[]:=drop_of_length_le (by simp[tE,aH]);rw[mT];simp
 have o3:xs.length=len:=by rw[vp];simp[aH]
 have eY:(execOp aZ o).run G.P w=.ok (.value (.slice (some ⟨w.heap.size,0,none⟩) len len)) (w.alloc (.cells r E)):=by
  have y5:¬(len*sz>2 ^ 24):=by have:(2:Nat) ^ 24=16777216:=by decide
                               omega
  have nF:Instr.fill (λi=>some (i*sz,sz)) L (parts.map λ(i,x)=>(i,aZ x)).toList=some r:=by simpa using gJ
  simp only[execOp,h,Instr.buildSlice,Sem.run_bind,run_underlying aQ.gY,aQ.size,Result.andThen_ok,y5,if_false];by_cases bM:len*sz=0
  ·have rG:L=(Array.range (len*sz)).map ((#[]:iY)[·%(#[]:iY).size]!):=by simp only[L,bM,if_true]
   rw[rG]at nF;simp only[bM,if_true,Sem.run_bind,Sem.run_pure,Result.andThen_ok]at nF ⊢;simp only[nF];simp[newRow]
  ·have rG:L=(Array.range (len*sz)).map (z.cells[·%z.cells.size]!):=by simp only[L,bM,if_false]
   rw[rG]at nF;simp only[bM,if_false,Sem.run_bind,i4,Sem.run_pure,Result.andThen_ok];simp only[nF];simp[newRow]
 rw[eY];obtain⟨aU,hle,kT,e1⟩:=an.lay r E;refine⟨aU,β,?_,e1,hle,λ_ _=>rfl⟩;simp only[au,bc];refine⟨_,len,by rw[o3],by omega,?_,λ_=>o3.symm,.inr ⟨w.heap.size,0,rfl,?_⟩⟩
 ·simp only[maxLen];omega
 ·have:=bW.closed _ _ af pr;rw[←xB]at this;exact zr xs 0 _ (nT hle _ _ this) λj v aa=>by rw[Nat.zero_add];exact kT j v (by simpa using aa)
end ops
end
section
def Y.minus(ids:dg):Y→Y
 |[]=>[]
 |(d,o)::r=>bif ids.contains d then Y.minus ids r else(d,o)::Y.minus ids r
def asG(ids:dg):∀(σ:Y) (d:Nat),(Y.minus ids σ).get d=if d∈ids then none else σ.get d
 |[],d=>by simp[Y.minus,Y.get]
 |(k,o)::r,d=>by
  simp only[Y.minus];cases hk:ids.contains k with
  |true=>
   simp only[cond_true,asG ids r d,asw];split
   ·rfl
   ·rename_i Z;rw[if_neg];intro e;subst e;simp at hk;exact Z hk
  |false=>
   simp only[cond_false,asw,asG ids r d];split
   ·rename_i e;subst e;rw[if_neg (by simpa using hk)]
   ·rfl
def as5:∀(a b:Y) (d:Nat),Y.get (a++b) d=match a.get d with|some o=>some o|none=>b.get d
 |[],b,d=>by simp[Y.get]
 |(k,o)::r,b,d=>by
  simp only[cons_append,asw];split
  ·rfl
  ·exact as5 r b d
def atT:∀{σ:Y} {d:Nat},d∈σ.ids→(σ.get d).isSome
 |[],d,h=>by simp[Y.ids]at h
 |(k,o)::r,d,h=>by
  rw[asw];split
  ·rfl
  ·rename_i hk;simp only[Y.ids,map_cons,mem_cons]at h;rcases h with h|h
   ·exact absurd h.symm hk
   ·exact atT (σ:=r) h
def u2(β:Nat→Value)(σ:Y):dg:=σ.flatMap λp=>c2 (β p.1)
def M5{β:Nat→Value}{σ:Y}{b:Nat}:b∈u2 β σ↔∃p∈σ,b∈c2 (β p.1):=by simp[u2,List.mem_flatMap]
section after
variable {G:ch}{cx:eW}{I:bs}{β:Nat→Value}{σ:Y}{w:World}
def bY.placeOf(h:bY G cx I β σ w){x:Nat}{o:cc}(u:σ.get x=some o){b:Nat}(U:b∈c2 (β x)):Place cx b:=(h.Fj u U).2
def nY(I:bs)(β:Nat→Value)(dk:Y)(w:World):eW:={B:=w.heap.size,w0:=w,I0:=I,yy:=u2 β dk,wY:=β}
def aY.place{cx oQ:eW}{I:bs}{β:Nat→Value}{w:World}{d:Nat}{o:cc}(Vr:∀b∈c2 (β d),Place cx b→Place oQ b)(h:aY cx I β w d o):aY oQ I β w d o:=by
 have aC:∀b,b1 (β d)=some b→Place cx b→Place oQ b:=λb U=>Vr b (j8 U);cases o with
 |b9 cU=>
  simp only[aY]at h ⊢;rcases h with q|⟨X,ak,ar⟩
  ·exact .inl q
  ·exact .inr ⟨X,ak,ar.go (cn.refl I) λaP ha=>⟨λ_=>rfl,λ_=>rfl,Vr aP (by rw[ak];exact ha)⟩⟩
 |gP T xs t=>
  simp only[aY]at h ⊢;rcases h with q|⟨aP,aO,arr,ak,ar,aM,aK,be,bJ,b8,cT,dD,eB,fm⟩
  ·exact .inl q
  ·exact .inr ⟨aP,aO,arr,ak,ar,aM,aK,be,bJ,b8,cT,dD,eB,aC aP (by rw[ak];rfl) fm⟩
 |vec T xs=>
  simp only[aY]at h ⊢;rcases h with q|⟨aP,arr,ak,ar,aM,aK,be⟩
  ·exact .inl q
  ·exact .inr ⟨aP,arr,ak,ar,aM,aK,aC aP (by rw[ak];rfl) be⟩
 |jP es clock bH seen=>
  simp only[aY]at h ⊢;rcases h with q|⟨r,fx,ak,ar,aM,aK,be,bJ,b8⟩
  ·exact .inl q
  ·exact .inr ⟨r,fx,ak,ar,aM,aK,be,bJ,aC r (by rw[ak];rfl) b8⟩
 |eO T e n du=>
  simp only[aY]at h ⊢;rcases h with q|⟨aP,aO,arr,X,ak,ar,aM,aK,be,bJ,b8,cT,dD,eB⟩
  ·exact .inl q
  ·exact .inr ⟨aP,aO,arr,X,ak,ar,aM,aK,be,bJ,b8,cT,dD,aC aP (by rw[ak];rfl) eB⟩
 |fc K E e keys du iK=>
  simp only[aY]at h ⊢;rcases h with q|⟨r,es,clock,X,cv,ak,ar,aM,aK,be,bJ,b8,cT⟩
  ·exact .inl q
  ·exact .inr ⟨r,es,clock,X,cv,ak,ar,aM,aK,be,bJ,aC r (by rw[ak];rfl) b8,cT⟩
 |cells T cs=>
  simp only[aY]at h ⊢;rcases h with q|⟨aP,arr,ak,ar,aM,aK,be⟩
  ·exact .inl q
  ·exact .inr ⟨aP,arr,ak,ar,aM,aK,aC aP (by rw[ak];rfl) be⟩
 |slice T sz xs k c5=>
  simp only[aY]at h ⊢;rcases h with q|q|⟨aP,aO,arr,ak,ar,aM,aK,be,bJ,b8,cT,dD,eB,fm⟩
  ·exact .inl q
  ·exact .inr (.inl q)
  ·exact .inr (.inr ⟨aP,aO,arr,ak,ar,aM,aK,be,bJ,b8,cT,dD,eB,aC aP (by rw[ak];rfl) fm⟩)
 |win T sz xs=>
  simp only[aY]at h ⊢;rcases h with q|q|⟨aP,hx,aO,arr,ak,ar,aM,aK,be,bJ,b8,cT,dD⟩
  ·exact .inl q
  ·exact .inr (.inl q)
  ·exact .inr (.inr ⟨aP,hx,aO,arr,ak,ar,aM,aK,be,bJ,b8,cT,aC aP (by rw[ak];rfl) dD⟩)
 |map K E bH=>
  simp only[aY]at h ⊢;rcases h with q|⟨r,es,clock,ak,ar,aM,aK,be,bJ⟩
  ·exact .inl q
  ·exact .inr ⟨r,es,clock,ak,ar,aM,aK,aC r (by rw[ak];rfl) be,bJ⟩
 |kf K E bH=>
  simp only[aY]at h ⊢;rcases h with q|⟨r,es,clock,ak,ar,aM,be,bJ⟩
  ·exact .inl q
  ·exact .inr ⟨r,es,clock,ak,ar,aM,aC r (by rw[ak];rfl) be,bJ⟩
 |gz es clock K E bH=>
  simp only[aY]at h ⊢;rcases h with q|⟨r,ak,ar,aM,aK,be,bJ⟩
  ·exact .inl q
  ·exact .inr ⟨r,ak,ar,aM,aK,aC r (by rw[ak];rfl) be,bJ⟩
 |iter cz q9 kW seen=>
  simp only[aY]at h ⊢;rcases h with q|⟨r,fx,ak,ar,aM,aK,be⟩
  ·exact .inl q
  ·exact .inr ⟨r,fx,ak,ar,aM,aK,aC r (by rw[ak];rfl) be⟩
 |hdr cz n=>exact h
def bY.yd(h:bY G cx I β σ w){P:Program}{dk:Y}(X:∀p∈dk,σ.get p.1=some p.2):bY ⟨P,0,dk.ids⟩ (nY I β dk w) I β dk w:=by
  have ki:∀d o,dk.get d=some o→σ.get d=some o:=λd o Z=>by
    obtain⟨p,cQ,dM,eH⟩:=sI dk d o Z;rw[←dM,←eH];exact X p cQ
  have h1:=h.sub ki
  exact{good:=h1.good,hM:=h1.hM,jg:=cn.refl I,iV:=λ_ _ _ _=>rfl,frame:=λ_ _ _=>rfl,size:=Nat.le_refl _,tape:=rfl,os:=rfl,output:=rfl,drawn:=Nat.le_refl _,
        cw:=λd o Z=>(h1.cw d o Z).place λb U _=>.inr (by
            obtain⟨p,cQ,dM,_⟩:=sI dk d o Z;exact M5.2 ⟨p,cQ,by rw[dM];exact U⟩),
        dA:=h1.dA,keep:=λ_ _=>rfl}
def bY.after(h:bY G cx I β σ w){P:Program}{dk:Y}(X:∀p∈dk,σ.get p.1=some p.2){aU:bs}{β':Nat→Value}{σ2:Y}{w':World}
    (b3:bY ⟨P,0,dk.ids⟩ (nY I β dk w) aU β' σ2 w') (news:dg) (aR:∀d∈news,d∉G.ids∧σ.get d=none) (hX:(σ.minus dk.ids).clean news.contains=true)
    (jv:σ2.clean (λd=>!(dk.ids++news).contains d)=true) :
    bY G cx aU (λd=>if d∈news then β' d else β d) (σ2++σ.minus dk.ids) w'∧cn I aU∧(∀(r:Q) v,r.refs (λd=>!(dk.ids++news).contains d)=false→au aU β' r v→au aU (λd=>if d∈news then β' d else β d) r v):=by
  have ki:∀d o,dk.get d=some o→σ.get d=some o:=λd o Z=>by
    obtain⟨p,cQ,dM,eH⟩:=sI dk d o Z;rw[←dM,←eH];exact X p cQ
  have hle:cn I aU:=b3.jg
  have hm:∀d,(λd=>!(dk.ids++news).contains d) d=false→(λd=>if d∈news then β' d else β d) d=β' d:=λd Z=>by
    have Z:d∈dk.ids∨d∈news:=by
      have:(dk.ids++news).contains d=true:=by rw[←Bool.not_eq_false'];exact Z
      exact List.mem_append.1 (List.contains_iff_mem.1 this)
    show(if d∈news then β' d else β d)=β' d;split
    · rfl
    · rename_i aR
      rcases Z with Z|Z
      · exact(b3.keep d Z).symm
      · exact absurd Z aR
  have A1:∀b,b∈u2 β dk→Place cx b:=λb U=>by
    obtain⟨p,cQ,dM⟩:=M5.1 U;exact h.placeOf (X p cQ) dM
  have nD:∀b,Place (nY I β dk w) b→Place cx b:=λb U=>by
    rcases U with U|U
    · exact .inl (Nat.le_trans h.size U)
    · exact A1 b U
  have Vm:∀b,b<cx.B→b∉cx.yy→b<(nY I β dk w).B∧b∉(nY I β dk w).yy:=λb h1 D=>
    ⟨Nat.lt_of_lt_of_le h1 h.size,λU=>by
      rcases A1 b U with q|q
      · omega
      · exact D q⟩
  have ij:∀x o,(σ.minus dk.ids).get x=some o→x∉dk.ids∧σ.get x=some o:=λx o u=>by
    rw[asG]at u;split at u
    · cases u
    · exact⟨by assumption,u⟩
  have Q4:∀x o,(σ.minus dk.ids).get x=some o→∀b∈c2 (β x),b<(nY I β dk w).B∧b∉(nY I β dk w).yy:=λx o u b U=>by
    obtain⟨h1,D⟩:=ij x o u;refine⟨h.sL D U,λvP=>?_⟩;obtain⟨p,cQ,dM⟩:=M5.1 vP;have akB:p.1≠x:=λe=>h1 (by rw[←e];exact List.mem_map.2 ⟨p,cQ,rfl⟩);exact h.dA p.1 x (by rw[X p cQ];rfl) (by rw[D];rfl) akB b dM U
  have I9:∀x o,(σ.minus dk.ids).get x=some o→(if x∈news then β' x else β x)=β x:=λx o u=>by
    have:x∉news:=λMi=>by
      have:=(aR x Mi).2;rw[(ij x o u).2]at this;cases this
    rw[if_neg this]
  refine⟨{good:=b3.good,hM:=b3.hM,jg:=h.jg.trans hle,iV:=λb h1 D o=>?_,frame:=λb h1 D=>?_,size:=Nat.le_trans h.size b3.size,tape:=b3.tape.trans h.tape,os:=b3.os.trans h.os,output:=b3.output.trans h.output,drawn:=Nat.le_trans h.drawn b3.drawn,
          cw:=λx o u=>?_,dA:=λx y u ag cb b=>?_,keep:=λx u=>?_},hle,λr v aB aa=>u4 hm r v aB aa⟩
  · obtain⟨aj,a1⟩:=Vm b h1 D
    exact(b3.iV b aj a1 o).trans (h.iV b h1 D o)
  · obtain⟨aj,a1⟩:=Vm b h1 D
    exact(b3.frame b aj a1).trans (h.frame b h1 D)
  · rw[as5]at u
    cases D:σ2.get x with
    |some hx=>
      rw[D]at u;cases u;obtain⟨bl,b2⟩:=asF jv x o D;exact((b3.cw x o D).place (λb _=>nD b)).beta hm bl b2
    |none=>
      rw[D]at u;simp only at u;obtain⟨gJ,gA⟩:=ij x o u;obtain⟨bl,b2⟩:=asF hX x o u;have ai:=h.cw x o gA
      have uO:∀d,news.contains d=false→(λd=>if d∈news then β' d else β d) d=β d:=λd Z=>by
        have:d∉news:=by simpa using Z
        show(if d∈news then β' d else β d)=β d;rw[if_neg this]
      refine aY.beta uO bl b2 ?_
      have To:∀b∈c2 (β x),w'.heap[b]?=w.heap[b]?∧∀o,aU b o=I b o:=λb U=>by
        obtain⟨ak,ar⟩:=Q4 x o u b U;exact⟨b3.frame b ak ar,λo=>b3.iV b ak ar o⟩
      have cC:∀b,b1 (β x)=some b→w'.heap[b]?=w.heap[b]?∧∀o,aU b o=I b o:=λb U=>To b (j8 U);cases o with
      |b9 cU=>
        simp only[aY]at ai ⊢;rcases ai with q|⟨X,ak,ar⟩
        · exact .inl q
        · refine .inr ⟨X,ak,ar.go hle λaP ha=>?_⟩
          obtain⟨dW,eg⟩:=To aP (by rw[ak];exact ha);exact⟨λ_=>dW,eg,id⟩
      |gP T xs t=>
        simp only[aY]at ai ⊢;rcases ai with q|⟨aP,aO,arr,ak,ar,aM,aK,be,bJ,b8,cT,dD,eB,fm⟩
        · exact .inl q
        · obtain⟨dW,eg⟩:=cC aP (by rw[ak];rfl)
          exact .inr ⟨aP,aO,arr,ak,ar,aM,dW.trans aK,be,nT hle _ _ bJ,b8,cT,dD,λo=>(eg o).trans (eB o),fm⟩
      |vec T xs=>
        simp only[aY]at ai ⊢;rcases ai with q|⟨aP,arr,ak,ar,aM,aK,be⟩
        · exact .inl q
        · obtain⟨dW,eg⟩:=cC aP (by rw[ak];rfl)
          exact .inr ⟨aP,arr,ak,dW.trans ar,aM,λo=>(eg o).trans (aK o),be⟩
      |jP es clock bH seen=>
        simp only[aY]at ai ⊢;rcases ai with q|⟨r,fx,ak,ar,aM,aK,be,bJ,b8⟩
        · exact .inl q
        · obtain⟨dW,eg⟩:=cC r (by rw[ak];rfl)
          exact .inr ⟨r,fx,ak,dW.trans ar,hle _ _ _ aM,mS hle _ _ aK,be,λo=>(eg o).trans (bJ o),b8⟩
      |eO T e n du=>
        simp only[aY]at ai ⊢;rcases ai with q|⟨aP,aO,arr,X,ak,ar,aM,aK,be,bJ,b8,cT,dD,eB⟩
        · exact .inl q
        · obtain⟨dW,eg⟩:=cC aP (by rw[ak];rfl)
          exact .inr ⟨aP,aO,arr,X,ak,ar,aM,dW.trans aK,be,bJ,b8,cT,λo=>(eg o).trans (dD o),eB⟩
      |fc K E e keys du iK=>
        simp only[aY]at ai ⊢;rcases ai with q|⟨r,es,clock,X,cv,ak,ar,aM,aK,be,bJ,b8,cT⟩
        · exact .inl q
        · obtain⟨dW,eg⟩:=cC r (by rw[ak];rfl)
          exact .inr ⟨r,es,clock,X,cv,ak,dW.trans ar,aM,aK,be.mono hle,λo=>(eg o).trans (bJ o),b8,cT⟩
      |cells T cs=>
        simp only[aY]at ai ⊢;rcases ai with q|⟨aP,arr,ak,ar,aM,aK,be⟩
        · exact .inl q
        · obtain⟨dW,eg⟩:=cC aP (by rw[ak];rfl)
          exact .inr ⟨aP,arr,ak,dW.trans ar,tW hle (hp.refl β) _ _ aM,λo=>(eg o).trans (aK o),be⟩
      |slice T sz xs k c5=>
        simp only[aY]at ai ⊢;rcases ai with q|q|⟨aP,aO,arr,ak,ar,aM,aK,be,bJ,b8,cT,dD,eB,fm⟩
        · exact .inl q
        · exact .inr (.inl q)
        · obtain⟨dW,eg⟩:=cC aP (by rw[ak];rfl)
          exact .inr (.inr ⟨aP,aO,arr,ak,ar,aM,dW.trans aK,be,nT hle _ _ bJ,b8,cT,λhz o ai=>(eg o).trans (dD hz o ai),λo ai=>(eg o).trans (eB o ai),fm⟩)
      |win T sz xs=>
        simp only[aY]at ai ⊢;rcases ai with q|q|⟨aP,hx,aO,arr,ak,ar,aM,aK,be,bJ,b8,cT,dD⟩
        · exact .inl q
        · exact .inr (.inl q)
        · obtain⟨dW,eg⟩:=cC aP (by rw[ak];rfl)
          exact .inr (.inr ⟨aP,hx,aO,arr,ak,ar,aM,dW.trans aK,be,zq hle _ _ _ bJ,b8,λhz o ai=>(eg o).trans (cT hz o ai),dD⟩)
      |map K E bH=>
        simp only[aY]at ai ⊢;rcases ai with q|⟨r,es,clock,ak,ar,aM,aK,be⟩
        · exact .inl q
        · obtain⟨dW,eg⟩:=cC r (by rw[ak];rfl)
          exact .inr ⟨r,es,clock,ak,dW.trans ar,mS hle _ _ aM,λo=>(eg o).trans (aK o),be⟩
      |kf K E bH=>
        simp only[aY]at ai ⊢;rcases ai with q|⟨r,es,clock,ak,ar,aM,aK,be⟩
        · exact .inl q
        · exact .inr ⟨r,es,clock,ak,hle _ _ _ ar,mS hle _ _ aM,aK,be⟩
      |gz es clock K E bH=>
        simp only[aY]at ai ⊢;rcases ai with q|⟨r,ak,ar,aM,aK,be⟩
        · exact .inl q
        · obtain⟨dW,eg⟩:=cC r (by rw[ak];rfl)
          exact .inr ⟨r,ak,dW.trans ar,mS hle _ _ aM,λo=>(eg o).trans (aK o),be⟩
      |iter cz q9 kW seen=>
        simp only[aY]at ai ⊢;rcases ai with q|⟨r,fx,ak,ar,aM,aK,be⟩
        · exact .inl q
        · obtain⟨dW,eg⟩:=cC r (by rw[ak];rfl)
          exact .inr ⟨r,fx,ak,ar,dW.trans aM,λo=>(eg o).trans (aK o),be⟩
      |hdr cz n=>exact ai
  ·
    have Gn:∀x,(σ2.get x).isSome→(if x∈news then β' x else β x)=β' x:=λx u=>by
      obtain⟨o,u⟩:=Option.isSome_iff_exists.1 u;exact hm x (asF jv x o u).1
    have zU:∀x,(Y.get (σ2++σ.minus dk.ids) x).isSome→(σ2.get x).isSome∨∃o,(σ.minus dk.ids).get x=some o:=λx u=>by
      rw[as5]at u;cases D:σ2.get x with
      |some o=>exact .inl rfl
      |none=>rw[D]at u;exact .inr (Option.isSome_iff_exists.1 u)
    have mixed:∀x y,(σ2.get x).isSome→(∃o,(σ.minus dk.ids).get y=some o)→b∈c2 (β' x)→b∈c2 (β y)→False:=λx y u ⟨o,ag⟩ aJ e2=>by
      obtain⟨arw,u⟩:=Option.isSome_iff_exists.1 u;obtain⟨ak,ar⟩:=Q4 y o ag b e2;rcases b3.placeOf u aJ with q|q
      · exact absurd q (by omega)
      · exact ar q
    show b∈c2 (if x∈news then β' x else β x)→b∉c2 (if y∈news then β' y else β y);rcases zU x u with h1|⟨hI,h1⟩<;>rcases zU y ag with D|⟨fW,D⟩
    · rw[Gn x h1,Gn y D]
      exact b3.dA x y h1 D cb b
    · rw[Gn x h1,I9 y fW D]
      exact λaJ e2=>mixed x y h1 ⟨fW,D⟩ aJ e2
    · rw[I9 x hI h1,Gn y D]
      exact λaJ e2=>mixed y x D ⟨hI,h1⟩ e2 aJ
    · rw[I9 x hI h1,I9 y fW D]
      exact h.dA x y (by rw[(ij x hI h1).2];rfl) (by rw[(ij y fW D).2];rfl) cb b
  · have:x∉news:=λMi=>(aR x Mi).1 u
    simp only[this,if_false];exact h.keep x u
end after
section ops
variable {G:ch}{o:Oper}{ev:Operand→Q}{σ:Y}
def xO{I:bs}{β:Nat→Value}(ev:Operand→Q)(aZ:Operand→Value):∀(xs:List Operand),(∀x∈xs,au I β (ev x) (aZ x))→bW I β (xs.map ev) (xs.map aZ)
 |[],_=>by simp[bW]
 |x::r,h=>by
  simp only[map_cons,bW];exact⟨aZ x,r.map aZ,rfl,h x (by simp),xO ev aZ r λy ag=>h y (by simp[ag])⟩
def BM{P:Program}{o:Oper}{gO:Operand}{args:Array Operand}{k:Array TypeId}{aZ:Operand→Value}{f:FuncId}{vs:iY}{w:World}(h:o.op=.call ⟨.value gO,args,k⟩)(bm:aZ gO=.func (.func f) #[] vs)
  (o7:∀(args:iY) (w:World),(callFunc f args).run P w=.ok (.enter f args) w):(execOp aZ o).run P w=.ok (.enter f ((args.toList.map aZ++vs.toList).toArray)) w:=by
 simp[execOp,h,resolve,bm,Deferred.ofValue,invoke,o7]
def bK.call{gO:Operand}{args:Array Operand}{k:Array TypeId}{f:FuncId}{aO dx:List Q}{σs dk:Y}{r:Q}(h:o.op=.call ⟨.value gO,args,k⟩)(bm:ev gO=.fn f aO)
  (o7:∀(args:iY) (w:World),(callFunc f args).run G.P w=.ok (.enter f args) w) (X:∀p∈σs,σ.get p.1=some p.2) (ay:jE σs (args.toList.map ev++aO) dx) (af:∀p∈dk,σs.get p.1=some p.2)
  (cM:dT G.P f dk dx r) (aB:r.closed=true) (tJ:dk.clean (λd=>!(dk.ids++[]).contains d)=true):Yields G o ev σ [] σs.ids r:=by
 intro az cx I β w aZ cf an _ hop;have jh:=hop gO (by simp[h,Op.operands,Call.operands]);rw[bm]at jh;simp only[au]at jh;obtain⟨vs,jh,n4⟩:=jh;rw[BM h jh o7]
 have ki:∀d o,σs.get d=some o→az.get d=some o:=λd o Z=>by
  obtain⟨p,cQ,dM,eH⟩:=sI σs d o Z;rw[cf d (by rw[←dM];exact List.mem_map.2 ⟨p,cQ,rfl⟩),←dM,←eH];exact X p cQ
 have xC:=an.sub ki;have lX:=rF _ _ _ _ (xO ev aZ args.toList λx u=>hop x (by simp only[h,Op.operands,Call.operands];simp;right;simpa using u)) n4;have ud:=ay.rep xC _ lX;have Mb:∀p∈dk,az.get p.1=some p.2:=λp aC=>ki _ _ (af p aC);have fB:=an.yd (P:=G.P) Mb;refine Calls.mono (cM _ w I β _ fB ud) ?_;rintro e w' ⟨v,he,r',σ2,aU,β',⟨qj,jI⟩,kD,e1⟩;subst qj jI;obtain⟨h1,D,aj⟩:=an.after Mb e1 [] (by simp) (atm _) tJ;refine⟨v,he,aU,β,?_,?_,D,λ_ _=>rfl⟩
 ·exact bc.rep β _ _ (au.closed r' v aB kD)
 ·refine({h1 with}:bY G cx aU β (σ2++az.minus σ2.ids) w').sub λd o Z=>?_;rw[as5,asG];cases D:σ2.get d with
  |some hx=>
   obtain⟨p,cQ,dM,eH⟩:=sI σ2 d hx D;have:=Mb p cQ;rw[dM,eH,Z]at this;simpa using this.symm
  |none=>
   have:d∉σ2.ids:=λhm=>by have:=atT hm;rw[D]at this;cases this
   simp[this,Z]
def ej.call{gO:Operand}{args:Array Operand}{k:Array TypeId}{f:FuncId}{aO dx:List Q}{dk:Y}{hL:Q→Y→Prop}(news:dg)(h:o.op=.call ⟨.value gO,args,k⟩)(bm:ev gO=.fn f aO)
  (o7:∀(args:iY) (w:World),(callFunc f args).run G.P w=.ok (.enter f args) w) (X:∀p∈dk,σ.get p.1=some p.2) (ay:jE σ (args.toList.map ev++aO) dx)
  (cM:eP G.P f dk dx hL) (aR:news.all (λd=>!G.ids.contains d&&(σ.get d).isNone)=true) (hX:(σ.minus dk.ids).clean news.contains=true)
  (jv:∀r σ2,hL r σ2→r.refs (λd=>!(dk.ids++news).contains d)=false∧σ2.clean (λd=>!(dk.ids++news).contains d)=true) :
  h5 G o ev σ (dk.ids++news) news (λr az=>∃σ2,hL r σ2∧az=σ2++σ.minus dk.ids):=by
 intro cx I β w aZ an hop;have jh:=hop gO (by simp[h,Op.operands,Call.operands]);rw[bm]at jh;simp only[au]at jh;obtain⟨vs,jh,n4⟩:=jh;rw[BM h jh o7];have lX:=rF _ _ _ _ (xO ev aZ args.toList λx u=>hop x (by simp only[h,Op.operands,Call.operands];simp;right;simpa using u)) n4;have ud:=ay.rep an _ lX;have fB:=an.yd (P:=G.P) X
 have A8:∀d∈news,d∉G.ids∧σ.get d=none:=λd Z=>by
  have:=List.all_eq_true.1 aR d Z;simpa using this
 refine Calls.mono (cM _ w I β _ fB ud) ?_;rintro e w' ⟨v,he,r,σ2,aU,β',aC,kD,e1⟩;obtain⟨gv,cK⟩:=jv r σ2 aC;obtain⟨h1,D,aj⟩:=an.after X e1 news A8 hX cK;refine⟨v,he,r,_,aU,_,⟨σ2,aC,rfl⟩,aj r v gv kD,h1,D,λd Z=>by simp[Z],λd Z=>?_⟩;have Z:d∉dk.ids∧d∉news:=by simpa using Z
 rw[as5,asG,if_neg Z.1];cases D:σ2.get d with
 |some hx=>
  have:=(asF cK d hx D).1;have:(dk.ids++news).contains d=true:=by rw[←Bool.not_eq_false'];exact this
  exact absurd (List.mem_append.1 (List.contains_iff_mem.1 this)) (by simp[Z.1,Z.2])
 |none=>rfl
def Hl{P:Program}{w:World}{b off:Nat}{aV:TypeId}{arr:iY}(U:w.heap[b]?=some (.cells arr aV (0,0)))(vs:dZ)(aH:off+vs.length≤arr.size)(h1:∀v∈vs,v.oneCell'=true):
  (storeCells ⟨b,off,none⟩ vs).run P w=.ok () (w.setRow b (iZ arr.toList off vs).toArray):=by
 have:=run_storeCells_at P b off aV vs 0 arr w U (by simpa using aH) h1;simpa [iZ]using this
def XS{I:bs}{β:Nat→Value}{cs cS:List Q}{vs bI:dZ}(off:Nat)(h:bW I β cs vs)(b3:bW I β cS bI):bW I β (iZ cs off cS) (iZ vs off bI):=by
 unfold iZ;rw[sx _ _ b3];exact rF _ _ _ _ (rF _ _ _ _ (BA _ _ _ h) b3) (Bz _ _ _ h)
def Y.set(d:Nat)(o:cc):Y→Y
 |[]=>[]
 |(k,x)::r=>bif Nat.beq k d then(k,o)::r else(k,x)::Y.set d o r
def asB(d:Nat)(o:cc):∀(σ:Y) (x:Nat),(Y.set d o σ).get x=if x=d then(σ.get d).map λ_=>o else σ.get x
 |[],x=>by simp[Y.set,Y.get]
 |(k,y)::r,x=>by
  simp only[Y.set];by_cases hk:k=d
  ·subst hk;simp only[Nat.beq_refl,cond_true,asw];by_cases u:k=x
   ·subst u;simp
   ·simp[u,Ne.symm u]
  ·have:Nat.beq k d=false:=by rw[←Bool.not_eq_true,Nat.beq_eq];exact hk
   simp only[this,cond_false,asw,asB d o r x];by_cases u:k=x
   ·subst u;simp[hk]
   ·simp[u,hk]
def au5{T aV d p n:Nat}{x y:Operand}{a:Q}{cs:List Q}(h:o.op=.store T x y)(u:ev x=.ptr d p)(ag:ev y=a)(Z:σ.get d=some (.cells aV cs))(aQ:∀w,(sizeOf T).run G.P w=.ok n w)
  (bm:a.flat=true) (aR:(pI a).length=n) (aH:p+n≤cs.length) :
  h5 G o ev σ [d] [] (λr az=>r=.undef∧az=σ.set d (.cells aV (iZ cs p (pI a)))):=by
 intro cx I β w aZ an hop;have h1:=hop x (by simp[h,Op.operands]);rw[u]at h1
 have D:=hop y (by simp[h,Op.operands]);rw[ag]at D
 simp only[au]at h1;obtain⟨b,h1,aj⟩:=h1;obtain⟨arr,ak,ar,aM,aK,be⟩:=an.box Z h1;obtain⟨f1,f2⟩:=ate bm D;have o9:=sx _ _ aM;have ji:=sx _ _ f1;simp only[Array.length_toList]at o9 ji;have mZ:=Hl (P:=G.P) ar (aZ y).cells.toList (off:=p) (by simp;omega) f2;have eY:(execOp aZ o).run G.P w=.ok .skip (w.setRow b (iZ arr.toList p (aZ y).cells.toList).toArray):=by
  have aJ:¬((aZ y).cells.size≠n):=by omega
  simp[execOp,h,aj,Instr.storeAt,Instr.sureAddr,storeVar,aQ,aJ,mZ]
 rw[eY];refine⟨.undef,_,I,β,⟨rfl,rfl⟩,by simp[au,bc],?_,cn.refl I,λ_ _=>rfl,λx u=>by rw[asB,if_neg (by simpa using u)]⟩;have fL:b1 (β d)=some b:=h1
 refine an.turn (d:=d) (gK.setRow w b _) be (λx u=>by rw[asB,if_neg u]) (λx u X e=>an.dA x d X (by rw[Z];rfl) u b e (j8 fL)) (cn.refl I) (λ_ _ _=>rfl)
  (λo v aa=>by rw[aK o]at aa;cases aa) (aK none) (λ_ _=>rfl) (.inr rfl) (hp.refl β) (.inl fL) λaX cC=>?_
 rw[asB,if_pos rfl,Z]at cC;injection cC with cC
 subst cC;simp only[aY];exact .inr ⟨b,_,ak,setRow_heap w b arr _ aV _ ar,by simpa using XS p aM f1,aK,be⟩
end ops
end
section
structure kR(P:Program)(T E sz bytes:Nat):Prop where
 gY:P.underlying T=some (.slice E)
 info:∃i z,P.info? E=some i∧i.zero=some z∧i.size=sz∧i.bytes=bytes∧z.cells.size=sz
 pos:0<sz
def Bo{I:bs}{b:Nat}{w:World}(bu:∀b (o:Nat) v,I b o=some v→w.cell? ⟨b,o,none⟩=some v):∀(xs:List (List Q)) (o:Nat),jC I b xs o→
  ∃vs:dZ,cV I xs.flatten vs∧∀j v,vs[j]?=some v→w.cell? ⟨b,o+j,none⟩=some v
 |[],o,_=>⟨[],rfl,λj v h=>by simp at h⟩
 |e::r,o,h=>by
  simp only[jC]at h;obtain⟨vs,h1,D⟩:=Na bu e o h.1;obtain⟨bI,aj,a1⟩:=Bo bu r (o+e.length) h.2;have aH:=qa _ _ h1;refine⟨vs++bI,by simp only[flatten_cons];exact(ox _ _ _).2 ⟨vs,bI,rfl,h1,aj⟩,λj v aa=>?_⟩;rcases Nat.lt_or_ge j vs.length with aT|aT
  ·rw[List.getElem?_append_left aT]at aa;exact D j v aa
  ·rw[List.getElem?_append_right aT]at aa;have:=a1 (j-vs.length) v aa
   rwa [aH,show o+e.length+(j-e.length)=o+j from by omega]at this
def PC{I:bs}:∀(cs:List Q) (vs:dZ),cs.all Q.one=true→cV I cs vs→∀v∈vs,v.oneCell'=true:=λcs vs af h=>
 N7 (β:=λ_=>undef) cs vs af (cV.rep _ cs vs h)
section ops
variable {G:ch}{o:Oper}{ev:Operand→Q}{σ:Y}
def ov{P:Program}{o:Oper}{s x:Operand}{t:Nat}{aZ:Operand→Value}{w w':World}{dF:Value}(h:o.op=.call ⟨.builtin .append,#[s,x],#[t,t]⟩)(aB:(Builtin.append_ #[t,t] o.type #[aZ s,aZ x]).run P w=.ok dF w'):
  (execOp aZ o).run P w=.ok (.value dF) w':=by
 simp[execOp,h,resolve,invoke,builtin,aB]
def XT{α:Type}(L news:List α)(n j:Nat)(aT:j<n)(aR:n≤L.length):(L.take n++news++L.drop (n+news.length))[j]?=L[j]?:=by
 rw[List.append_assoc,List.getElem?_append_left (by rw[length_take];omega),getElem?_take,if_pos aT]
def ej.append{s x:Operand}{T E sz bytes d d2 aV k:Nat}{f c5:Bool}{xs bx:List (List Q)}(h:o.op=.call ⟨.builtin .append,#[s,x],#[T,T]⟩)(X:ev s=.own d)(Z:σ.get d=some (.slice aV sz xs k c5))(u:iw σ (ev x) (.bf f bx))(aQ:kR G.P T E sz bytes)(iP:aV=E)
  (uZ:∀e∈bx,e.length=sz) (h1:bx.flatten.all Q.one=true) (U:(xs.length+bx.length)*bytes≤140737488355328) (qg:xs.length+bx.length≤maxLen) (hi:G.ids.contains d2=false)
  (af:(σ.minus [d]).clean [d2].contains=true) :
  h5 G o ev σ [d,d2] [d2] (λr az=>r=.own d2∧az=(d2,.slice aV sz (xs++bx) k false)::σ.minus [d]):=by
 subst iP;intro cx I β w aZ an hop;have eV:=hop s (by simp[h,Op.operands,Call.operands]);rw[X]at eV;simp only[au]at eV;obtain⟨eV,ef⟩:=eV;have cH:=u.rep an _ (hop x (by simp[h,Op.operands,Call.operands]));simp only[au,bc]at cH;obtain⟨a,c,cH,gi,k9,_,ql⟩:=cH;obtain⟨i,z,hE,i4,h9,od,u0⟩:=aQ.info;have rM:∃news:dZ,cV I bx.flatten news∧(bx.length=0∨∃ad:Addr,a=some ad∧∀j aA,news[j]?=some aA→w.cell? (ad.add j)=some aA):=by
  rcases ql with rfl|⟨b,o,rfl,aB⟩
  ·exact⟨[],rfl,.inl rfl⟩
  ·obtain⟨vs,ak,ar⟩:=Bo an.good bx o aB;exact⟨vs,ak,.inr ⟨_,rfl,λj aA hu=>by rw[mc];exact ar j aA hu⟩⟩
 obtain⟨news,rL,nC⟩:=rM;have lD:news.length=bx.length*sz:=by rw[qa _ _ rL];exact zo bx uZ
 have oU:=PC _ _ h1 rL;have mD:xs.length+bx.length≤9223372036854775807:=by simp only[maxLen]at qg;omega
 have oc:bY G cx I β (σ.minus [d]) w:=an.sub λx aX u=>by rw[asG]at u;split at u<;>first|cases u|exact u
 have oG:=oc.qy (dI:=[d2]) (σ2:=(d2,.slice aV sz (xs++bx) k false)::σ.minus [d]) (env:=[]) ⟨λx u=>by rw[asw,if_neg (λe=>u (by simp[e]))],λx u=>by simp at u;subst u;simpa using hi,rfl,af,λx u cz n h=>by simp at u;subst u;rw[asw,if_pos rfl]at h;cases h⟩;have ig:∀x,x≠d2→gI β [d2] x=β x:=λx u=>by simp[gI,u]
 have fin:∀(dF:Value) (w':World) (b:Nat),(execOp aZ o).run G.P w=.ok (.value dF) w'→iD dF=true→gK w w' b→Place cx b→(∀x,((σ.minus [d]).get x).isSome→b∉c2 (β x))→
   (∀(o:Nat) v,I b o=some v→w'.cell? ⟨b,o,none⟩=some v)→I b none=none→(b1 dF=some b∨c2 dF=[])→aY cx I (g7 β d2 dF) w' d2 (.slice aV sz (xs++bx) k false)→
   m3 G.P (λv w'=>∃(bN:Q) (az:Y) (aU:bs) (β':Nat→Value),(bN=.own d2∧az=(d2,cc.slice aV sz (xs++bx) k false)::σ.minus [d])∧au aU β' bN v∧bY G cx aU β' az w'∧cn I aU∧(∀x,x∉[d2]→β' x=β x)∧(∀x,x∉[d,d2]→az.get x=σ.get x)) ((execOp aZ o).run G.P w):=by
  intro dF w' b eY iA hk aC qQ zX y9 fL cC;rw[eY];refine⟨.own d2,_,I,g7 β d2 dF,⟨rfl,rfl⟩,by simp only[au,gL,iA,and_self],?_,cn.refl I,λx u=>g5 β dF (by simpa using u),λx u=>?_⟩
  ·refine oG.turn (d:=d2) hk aC (λ_ _=>rfl) (λx u mD e=>?_) (cn.refl I) (λ_ _ _=>rfl) zX y9 (λx u=>by rw[g5 β dF u,ig x u]) (.inl (by simpa using hi)) (λx=>?_) (by rw[gL];exact fL) (λaX mL=>?_)
   ·rw[asw,if_neg (Ne.symm u)]at mD;rw[ig x u]at e;exact qQ x mD e
   ·by_cases u:x=d2
    ·left;simp[gI,u]
    ·right;rw[g5 β dF u,ig x u]
   ·rw[asw,if_pos rfl]at mL;injection mL with mL
    subst mL;exact cC
  ·have u:x≠d∧x≠d2:=by simpa using u
   rw[asw,if_neg (Ne.symm u.2),asG,if_neg (by simpa using u.1)]
 have other:∀b,b1 (β d)=some b→∀x,((σ.minus [d]).get x).isSome→b∉c2 (β x):=λb fL x u e=>by
  rw[asG]at u;split at u
  ·cases u
  ·rename_i oH;exact an.dA x d u (by rw[Z];rfl) (by simpa using oH) b e (j8 fL)
 have tq:∀x,((σ.minus [d]).get x).isSome→w.heap.size∉c2 (β x):=λx u e=>by
  obtain⟨aX,u⟩:=Option.isSome_iff_exists.1 u;exact absurd (oc.sL u e) (by omega)
 have xd:I w.heap.size none=none:=an.iF (Nat.le_refl _) none;have x6:∀(w':World) (o:Nat) v,I w.heap.size o=some v→w'.cell? ⟨w.heap.size,o,none⟩=some v:=λw' o v aa=>by rw[an.iF (Nat.le_refl _)]at aa;cases aa
 have sM:∀ms,ms<xs.length+bx.length→xs.length+bx.length≤grownCap w (xs.length+bx.length) ms aV∧grownCap w (xs.length+bx.length) ms aV≤maxLen:=λms _=>⟨grownCap_ge _ _ _ _,grownCap_le_maxLen _ _ _ _ qg⟩
 have ve:∀(h0:dZ) (aO:Nat),cV I xs.flatten h0→h0.length=xs.length*sz→(∀e∈xs,e.length=sz)→k≤xs.length→xs.length+bx.length≤aO→aO≤maxLen→
   aY cx I (g7 β d2 (.slice (some ⟨w.heap.size,0,none⟩) (xs.length+bx.length) aO)) (w.drew.alloc (.cells (h0.toArray++news.toArray++Builtin.zeroCells z.cells (aO-(xs.length+bx.length))) aV)) d2 (.slice aV sz (xs++bx) k false):=by
  intro h0 aO oa k1 DX aqE qh qO;simp only[aY,gL];have eA:(h0++news).length=(xs++bx).length*sz:=by rw[length_append,length_append,k1,lD,Nat.add_mul]
  refine .inr (.inr ⟨w.heap.size,aO,_,by rw[length_append],by rw[length_append];exact qh,qO,heap_alloc_new w.drew _,?_,?_,?_,by rw[length_append];omega,by simp,λo _=>an.iF (Nat.le_refl _) o,.inl an.size⟩)
  ·simp only[Array.size_append,size_toArray,size_zeroCells,u0,k1,lD,←Nat.add_mul];congr 1;omega
  ·have:(h0.toArray++news.toArray++Builtin.zeroCells z.cells (aO-(xs.length+bx.length))).toList.take ((xs++bx).length*sz)=h0++news:=by
    simp only[Array.toList_append,List.append_assoc];rw[←List.append_assoc,←eA];exact take_left
   rw[this,List.flatten_append];exact(ox _ _ _).2 ⟨_,_,rfl,oa,rL⟩
  ·intro e he;rcases List.mem_append.1 he with he|he
   ·exact DX e he
   ·exact uZ e he
 have sN:∀aX,gK w (w.drew.alloc aX) w.heap.size:=λaX=>(gK.alloc w.drew aX).drew;have ai:=an.cw d _ Z;simp only[aY]at ai;rcases ai with q|⟨q,rfl,rfl⟩|⟨b,aO,arr,ak,ar,aM,aK,be,bJ,b8,cT,dD,eB,fm⟩
 ·rw[q]at eV;rw[eV]at ef;simp[iD]at ef
 ·
  rcases Nat.eq_zero_or_pos bx.length with hm|hm
  ·have ag:bx=[]:=eq_nil_of_length_eq_zero hm;subst ag;refine fin (.slice none 0 0) w w.heap.size (ov h ?_) rfl ⟨λ_ _ _=>rfl,Nat.le_refl _,rfl,rfl,rfl,Nat.le_refl _⟩ (.inl an.size) tq (x6 w) xd (.inr rfl) ?_
   ·rw[eV,cH,q];cases a<;>simp[Builtin.append_,run_underlying aQ.gY,Go.sizeOf,typeInfo,hE,Builtin.lenOf,Builtin.firstCells,loadCells,loadCellsFrom]
   ·simp only[aY,gL];exact .inr (.inl ⟨trivial,rfl,trivial⟩)
  ·obtain⟨ad,rfl,kT⟩:=nC.resolve_left (by omega);have aB:=run_append_nil (P:=G.P) w T o.type aV i z aQ.gY hE i4 ad bx.length c news (by rw[h9];exact lD) kT hm (by simp at mD;omega) (by simp at U;rw[od];omega);obtain⟨cp,cG⟩:=sM 0 (by simp;exact hm);simp only[length_nil,Nat.zero_add]at cp cG;refine fin _ _ w.heap.size (ov h (by rw[eV,cH,q];exact aB)) rfl (sN _) (.inl an.size) tq (x6 _) xd (.inl rfl) ?_;have:=ve [] (grownCap w bx.length 0 aV) rfl (by simp) (by simp) (Nat.le_refl _) (by simpa using cp) cG;simpa using this
 ·have fL:b1 (β d)=some b:=by rw[ak];rfl
  have bL:=hC aK;have tG:arr.toList.length=aO*sz:=by simpa using be
  have o3:xs.length*sz≤arr.toList.length:=by rw[tG];exact Nat.mul_le_mul_right _ ar
  have Vf:∀(o:Nat) v,I b o=some v→o<xs.length*sz:=λo v aa=>by
   rcases Nat.lt_or_ge o (k*sz)with hk|hk
   ·exact Nat.lt_of_lt_of_le hk (Nat.mul_le_mul_right _ cT)
   ·rw[eB o hk]at aa;cases aa
  by_cases oZ:xs.length+bx.length≤aO
  ·
   have eA:(arr.toList.take (xs.length*sz)++news).length=(xs++bx).length*sz:=by rw[length_append,length_take,Nat.min_eq_left o3,length_append,lD,Nat.add_mul]
   have CE:∀(w':World) (oJ:iY),w'.heap[b]?=some (.cells oJ aV (0,0))→oJ.toList=arr.toList.take (xs.length*sz)++news++arr.toList.drop (xs.length*sz+news.length)→
     aY cx I (g7 β d2 (.slice (some ⟨b,0,none⟩) (xs.length+bx.length) aO)) w' d2 (.slice aV sz (xs++bx) k false):=by
    intro w' oJ cA he;simp only[aY,gL];refine .inr (.inr ⟨b,aO,oJ,by rw[length_append],by rw[length_append];exact oZ,aM,cA,?_,?_,?_,by rw[length_append];omega,by simp,eB,fm⟩)
    ·have aqK:xs.length*sz+news.length≤arr.toList.length:=by rw[lD,←Nat.add_mul,tG];exact Nat.mul_le_mul_right _ oZ
     have ajt:oJ.size=oJ.toList.length:=by simp
     rw[ajt,he,←tG];simp only[length_append,length_take,length_drop];omega
    ·rw[he,←eA,take_left,List.flatten_append];exact(ox _ _ _).2 ⟨_,_,rfl,bJ,rL⟩
    ·intro e he;rcases List.mem_append.1 he with he|he
     ·exact b8 e he
     ·exact uZ e he
   rcases Nat.eq_zero_or_pos bx.length with hm|hm
   ·have ag:bx=[]:=eq_nil_of_length_eq_zero hm;subst ag;have aks:news=[]:=eq_nil_of_length_eq_zero (by simpa using lD);subst aks;refine fin (.slice (some ⟨b,0,none⟩) xs.length aO) w b (ov h ?_) rfl ⟨λ_ _ _=>rfl,Nat.le_refl _,rfl,rfl,rfl,Nat.le_refl _⟩ fm (other b fL) (λo v aa=>an.good b o v aa) (an.tu aK) (.inl rfl) ?_
    ·rw[eV,cH,ak];cases a<;>simp[Builtin.append_,run_underlying aQ.gY,Go.sizeOf,typeInfo,hE,Builtin.lenOf,Builtin.firstCells,loadCells,loadCellsFrom,ar,storeCells]
    ·have:=CE w arr aK (by simp);simpa using this
   ·obtain⟨ad,rfl,kT⟩:=nC.resolve_left (by omega);have yT:xs.length*i.size+news.length≤arr.size:=by rw[h9,lD,be,←Nat.add_mul];exact Nat.mul_le_mul_right _ oZ
    have aB:=run_append_room (P:=G.P) w T o.type aV i aQ.gY hE b xs.length aO arr aK ad bx.length c news (by rw[h9];exact lD) kT oU oZ yT;rw[h9]at aB;refine fin _ _ b (ov h (by rw[eV,cH,ak];exact aB)) rfl (gK.setRow w b _) fm (other b fL) (λo v aa=>?_) (an.tu aK) (.inl rfl) (CE _ _ (setRow_heap w b arr _ aV _ aK) rfl);have bu:=an.good b o v aa;simp only[World.cell?,aK]at bu;simp only[World.cell?,setRow_heap w b arr _ aV _ aK];have bu:arr.toList[o]?=some v:=by simpa using bu
    have:=XT arr.toList news (xs.length*sz) o (Vf o v aa) o3;rw[bu]at this;simpa using this
  ·
   have hm:0<bx.length:=by omega
   obtain⟨ad,rfl,kT⟩:=nC.resolve_left (by omega);have qR:(arr.toList.take (xs.length*sz)).length=xs.length*sz:=by rw[length_take,Nat.min_eq_left o3]
   have sE:∀j v,(arr.toList.take (xs.length*sz))[j]?=some v→w.cell? ((⟨b,0,none⟩:Addr).add j)=some v:=λj v aa=>by
    rw[mc];rw[getElem?_take]at aa;split at aa
    ·simp only[World.cell?,aK,Nat.zero_add];simpa using aa
    ·cases aa
   have aB:=run_append_grow (P:=G.P) w T o.type aV i z aQ.gY hE i4 ⟨b,0,none⟩ xs.length aO _ (by rw[h9];exact qR) sE ad bx.length c news (by rw[h9];exact lD) kT (by omega) (by omega) (growslice_fits (by omega) (by rw[od];exact U));obtain⟨cp,cG⟩:=sM aO (by omega);exact fin _ _ w.heap.size (ov h (by rw[eV,cH,ak];exact aB)) rfl (sN _) (.inl an.size) tq (x6 _) xd (.inl rfl) (ve _ _ bJ qR b8 cT cp cG)
def att{s x:Operand}{T E sz bytes d2:Nat}{f:Bool}{xs bx:List (List Q)}(h:o.op=.call ⟨.builtin .append,#[s,x],#[T,T]⟩)(X:(ev s=.c4∧xs=[])∨(ev s=.bf true xs∧0<bx.length))(u:iw σ (ev x) (.bf f bx))(aQ:kR G.P T E sz bytes)
  (zi:∀e∈xs,e.length=sz) (uZ:∀e∈bx,e.length=sz) (h1:bx.flatten.all Q.one=true) (U:(xs.length+bx.length)*bytes≤140737488355328) (qg:xs.length+bx.length≤maxLen) (hi:G.ids.contains d2=false)
  (af:σ.clean [d2].contains=true) :
  h5 G o ev σ [d2] [d2] (λr az=>r=.own d2∧az=(d2,.slice E sz (xs++bx) 0 false)::σ):=by
 intro cx I β w aZ an hop;have eV:=hop s (by simp[h,Op.operands,Call.operands]);have cH:=u.rep an _ (hop x (by simp[h,Op.operands,Call.operands]));simp only[au,bc]at cH;obtain⟨a,c,cH,gi,k9,_,ql⟩:=cH;obtain⟨i,z,hE,i4,h9,od,u0⟩:=aQ.info;have rM:∃news:dZ,cV I bx.flatten news∧(bx.length=0∨∃ad:Addr,a=some ad∧∀j aA,news[j]?=some aA→w.cell? (ad.add j)=some aA):=by
  rcases ql with rfl|⟨b,o,rfl,aB⟩
  ·exact⟨[],rfl,.inl rfl⟩
  ·obtain⟨vs,ak,ar⟩:=Bo an.good bx o aB;exact⟨vs,ak,.inr ⟨_,rfl,λj aA hu=>by rw[mc];exact ar j aA hu⟩⟩
 obtain⟨news,rL,nC⟩:=rM;have lD:news.length=bx.length*sz:=by rw[qa _ _ rL];exact zo bx uZ
 have mD:xs.length+bx.length≤9223372036854775807:=by simp only[maxLen]at qg;omega
 have oG:=an.qy (dI:=[d2]) (σ2:=(d2,.slice E sz (xs++bx) 0 false)::σ) (env:=[]) ⟨λx u=>by rw[asw,if_neg (λe=>u (by simp[e]))],λx u=>by simp at u;subst u;simpa using hi,rfl,af,λx u cz n h=>by simp at u;subst u;rw[asw,if_pos rfl]at h;cases h⟩;have ig:∀x,x≠d2→gI β [d2] x=β x:=λx u=>by simp[gI,u]
 have tq:∀x,(σ.get x).isSome→w.heap.size∉c2 (β x):=λx u e=>by
  obtain⟨aX,u⟩:=Option.isSome_iff_exists.1 u;exact absurd (an.sL u e) (by omega)
 have xd:I w.heap.size none=none:=an.iF (Nat.le_refl _) none;have x6:∀(w':World) (o:Nat) v,I w.heap.size o=some v→w'.cell? ⟨w.heap.size,o,none⟩=some v:=λw' o v aa=>by rw[an.iF (Nat.le_refl _)]at aa;cases aa
 have fin:∀(dF:Value) (w':World),(execOp aZ o).run G.P w=.ok (.value dF) w'→iD dF=true→gK w w' w.heap.size→(b1 dF=some w.heap.size∨c2 dF=[])→aY cx I (g7 β d2 dF) w' d2 (.slice E sz (xs++bx) 0 false)→
   m3 G.P (λv w'=>∃(bN:Q) (az:Y) (aU:bs) (β':Nat→Value),(bN=.own d2∧az=(d2,cc.slice E sz (xs++bx) 0 false)::σ)∧au aU β' bN v∧bY G cx aU β' az w'∧cn I aU∧(∀x,x∉[d2]→β' x=β x)∧(∀x,x∉[d2]→az.get x=σ.get x)) ((execOp aZ o).run G.P w):=by
  intro dF w' eY iA hk fL cC;rw[eY];refine⟨.own d2,_,I,g7 β d2 dF,⟨rfl,rfl⟩,by simp only[au,gL,iA,and_self],?_,cn.refl I,λx u=>g5 β dF (by simpa using u),λx u=>?_⟩
  ·refine oG.turn (d:=d2) hk (.inl an.size) (λ_ _=>rfl) (λx u mD e=>?_) (cn.refl I) (λ_ _ _=>rfl) (x6 w') xd (λx u=>by rw[g5 β dF u,ig x u]) (.inl (by simpa using hi)) (λx=>?_) (by rw[gL];exact fL) (λaX mL=>?_)
   ·rw[asw,if_neg (Ne.symm u)]at mD;rw[ig x u]at e;exact tq x mD e
   ·by_cases u:x=d2
    ·left;simp[gI,u]
    ·right;rw[g5 β dF u,ig x u]
   ·rw[asw,if_pos rfl]at mL;injection mL with mL
    subst mL;exact cC
  ·have u:x≠d2:=by simpa using u
   rw[asw,if_neg (Ne.symm u)]
 have sM:∀ms,ms<xs.length+bx.length→xs.length+bx.length≤grownCap w (xs.length+bx.length) ms E∧grownCap w (xs.length+bx.length) ms E≤maxLen:=λms _=>⟨grownCap_ge _ _ _ _,grownCap_le_maxLen _ _ _ _ qg⟩
 have ve:∀(h0:dZ) (aO:Nat),cV I xs.flatten h0→h0.length=xs.length*sz→xs.length+bx.length≤aO→aO≤maxLen→
   aY cx I (g7 β d2 (.slice (some ⟨w.heap.size,0,none⟩) (xs.length+bx.length) aO)) (w.drew.alloc (.cells (h0.toArray++news.toArray++Builtin.zeroCells z.cells (aO-(xs.length+bx.length))) E)) d2 (.slice E sz (xs++bx) 0 false):=by
  intro h0 aO oa k1 qh qO;simp only[aY,gL];have eA:(h0++news).length=(xs++bx).length*sz:=by rw[length_append,length_append,k1,lD,Nat.add_mul]
  refine .inr (.inr ⟨w.heap.size,aO,_,by rw[length_append],by rw[length_append];exact qh,qO,heap_alloc_new w.drew _,?_,?_,?_,by omega,by simp,λo _=>an.iF (Nat.le_refl _) o,.inl an.size⟩)
  ·simp only[Array.size_append,size_toArray,size_zeroCells,u0,k1,lD,←Nat.add_mul];congr 1;omega
  ·have:(h0.toArray++news.toArray++Builtin.zeroCells z.cells (aO-(xs.length+bx.length))).toList.take ((xs++bx).length*sz)=h0++news:=by
    simp only[Array.toList_append,List.append_assoc];rw[←List.append_assoc,←eA];exact take_left
   rw[this,List.flatten_append];exact(ox _ _ _).2 ⟨_,_,rfl,oa,rL⟩
  ·intro e he;rcases List.mem_append.1 he with he|he
   ·exact zi e he
   ·exact uZ e he
 have sN:∀aX,gK w (w.drew.alloc aX) w.heap.size:=λaX=>(gK.alloc w.drew aX).drew;rcases X with⟨X,rfl⟩|⟨X,hm⟩
 ·rw[X]at eV;simp only[au,bc]at eV;rcases Nat.eq_zero_or_pos bx.length with hm|hm
  ·have ag:bx=[]:=eq_nil_of_length_eq_zero hm;subst ag;refine fin (.slice none 0 0) w (ov h ?_) rfl ⟨λ_ _ _=>rfl,Nat.le_refl _,rfl,rfl,rfl,Nat.le_refl _⟩ (.inr rfl) ?_
   ·rw[eV,cH];cases a<;>simp[Builtin.append_,run_underlying aQ.gY,Go.sizeOf,typeInfo,hE,Builtin.lenOf,Builtin.firstCells,loadCells,loadCellsFrom]
   ·simp only[aY,gL];exact .inr (.inl ⟨trivial,rfl,trivial⟩)
  ·obtain⟨ad,rfl,kT⟩:=nC.resolve_left (by omega);have aB:=run_append_nil (P:=G.P) w T o.type E i z aQ.gY hE i4 ad bx.length c news (by rw[h9];exact lD) kT hm (by simp at mD;omega) (by simp at U;rw[od];omega);obtain⟨cp,cG⟩:=sM 0 (by simp;exact hm);simp only[length_nil,Nat.zero_add]at cp cG;refine fin _ _ (ov h (by rw[eV,cH];exact aB)) rfl (sN _) (.inl rfl) ?_;have:=ve [] (grownCap w bx.length 0 E) rfl (by simp) (by simpa using cp) cG;simpa using this
 ·rw[X]at eV;simp only[au,bc]at eV;obtain⟨a0,kW,eV,_,_,n4,iz⟩:=eV;have n4:=n4 trivial;subst n4;obtain⟨ad,rfl,kT⟩:=nC.resolve_left (by omega);rcases iz with rfl|⟨b,p,rfl,iz⟩
  ·
   obtain⟨cp,cG⟩:=sM 0 (by simp;exact hm);simp only[length_nil,Nat.zero_add]at cp cG;cases a0 with
   |none=>
    have aB:=run_append_nil (P:=G.P) w T o.type E i z aQ.gY hE i4 ad bx.length c news (by rw[h9];exact lD) kT hm (by simp at mD;omega) (by simp at U;rw[od];omega);refine fin _ _ (ov h (by rw[eV,cH];exact aB)) rfl (sN _) (.inl rfl) ?_;have:=ve [] (grownCap w bx.length 0 E) rfl (by simp) (by simpa using cp) cG;simpa using this
   |some jU=>
    have aB:=run_append_grow (P:=G.P) w T o.type E i z aQ.gY hE i4 jU 0 0 [] (by simp) (by simp) ad bx.length c news (by rw[h9];exact lD) kT (by omega) (by simp at mD;omega) (growslice_fits (by omega) (by rw[od];simpa using U));simp only[Nat.zero_add]at aB;refine fin _ _ (ov h (by rw[eV,cH];exact aB)) rfl (sN _) (.inl rfl) ?_;have:=ve [] (grownCap w bx.length 0 E) rfl (by simp) (by simpa using cp) cG;simpa using this
  ·obtain⟨h0,hI,fW⟩:=Bo an.good xs p iz;have qR:h0.length=xs.length*sz:=by rw[qa _ _ hI];exact zo xs zi
   have aB:=run_append_grow (P:=G.P) w T o.type E i z aQ.gY hE i4 ⟨b,p,none⟩ xs.length xs.length h0 (by rw[h9];exact qR) (λj v aa=>by rw[mc];exact fW j v aa) ad bx.length c news (by rw[h9];exact lD) kT (by omega) (by omega) (growslice_fits (by omega) (by rw[od];exact U));obtain⟨cp,cG⟩:=sM xs.length (by omega);exact fin _ _ (ov h (by rw[eV,cH];exact aB)) rfl (sN _) (.inl rfl) (ve _ _ hI qR cp cG)
def bK.makeFunc{f:FuncId}{aO:Array Operand}(h:o.op=.makeFunc (.func f) #[] aO):Yields G o ev σ [] [] (.fn f (aO.toList.map ev)):=
 .pure λaz cx I β w aZ cf an hop=>by
  refine⟨.func (.func f) #[] (aO.map aZ),by simp[execOp,h,Instr.makeFunc],?_⟩;simp only[au];exact⟨_,rfl,by simpa using xO ev aZ aO.toList λx u=>hop x (by simp only[h,Op.operands];simpa using u)⟩
structure gH(P:Program)(T f off n:Nat)(dG:Bool):Prop where
 run:∀(cs:iY) w,off+n≤cs.size→(Instr.field T (.agg cs) f).run P w=.ok (if dG then .agg (cs.extract off (off+n))else cs.getD off undef) w
 pos:dG=false→n=1
def bK.field{T f off n:Nat}{dG:Bool}{x:Operand}{cs:List Q}(h:o.op=.field T x f)(u:ev x=.agg cs)(aQ:gH G.P T f off n dG)(aR:Nat.ble (off+n) cs.length=true):Yields G o ev σ [] [] (pg dG n (cs.drop off)):=
 .pure λaz cx I β w aZ cf an hop=>by
  have h1:=hop x (by simp[h,Op.operands]);rw[u]at h1
  simp only[au]at h1;obtain⟨vs,h1,D⟩:=h1;have aH:=sx _ _ D;simp only[Array.length_toList]at aH;have aR:off+n≤cs.length:=by simpa using aR
  have Z:=Bz off _ _ D;refine⟨_,by simp only[execOp,h,h1,Sem.run_bind,aQ.run vs w (by omega),Result.andThen_ok,Sem.run_pure];rfl,?_⟩;cases dG with
  |true=>
   simp only[pg,cond_true,if_true,au];refine⟨_,rfl,?_⟩;have:=BA n _ _ Z;simpa [Array.toList_extract,extract_eq_take_drop]using this
  |false=>
   simp only[pg,cond_false,Bool.false_eq_true,if_false];have aC:=aQ.pos rfl;have bL:off<vs.size:=by omega
   have e:vs.toList.drop off=vs[off]::vs.toList.drop (off+1):=by rw[drop_eq_getElem_cons (by simpa using bL)];simp
   rw[e]at Z;rw[Array.getD_eq_getD_getElem?,Array.getElem?_eq_getElem bL];generalize cs.drop off=cS at Z;cases cS with
   |nil=>simp[au]
   |cons y r=>
    simp only[bW]at Z;obtain⟨aA,bI,e,Z,_⟩:=Z;cases e;exact Z
def HV{I:bs}{b sz:Nat}:∀(l:Nat) (xs:List (List Q)) (o:Nat),(∀e∈xs,e.length=sz)→jC I b xs o→jC I b (xs.drop l) (o+l*sz)
 |0,xs,o,_,h=>by simpa using h
 |l+1,[],o,_,_=>by simp[jC]
 |l+1,e::r,o,aH,h=>by
  simp only[jC]at h;have he:=aH e (by simp);have:=HV l r (o+e.length) (λx u=>aH x (by simp[u])) h.2;rw[he]at this;rw[Nat.add_mul,Nat.one_mul];simpa [Nat.add_assoc,Nat.add_comm sz]using this
def M6{I:bs}{b:Nat}:∀(h:Nat) (xs:List (List Q)) (o:Nat),jC I b xs o→jC I b (xs.take h) o
 |0,_,_,_=>by simp[jC]
 |h+1,[],_,_=>by simp[jC]
 |h+1,e::r,o,cA=>by
  simp only[jC,take_succ_cons]at cA ⊢;exact⟨cA.1,M6 h r _ cA.2⟩
def run_sliceBound{P:Program}{k:IntKind}{n:Int}{y:Nat}{code:BoundsCode}{w:World}(h:0≤n∧n≤(y:Int)):(Instr.sliceBound (.int k n) y code).run P w=.ok n.toNat w:=by
 unfold Instr.sliceBound;simp only[asIntOf,Sem.run_bind,Sem.run_pure,Result.andThen_ok];rw[if_pos h];rfl
def mm(ev:Operand→Q):Option Operand→Int|none=>0|some x=>match ev x with|.int _ n=>n|_=>-1
def q5(ev:Operand→Q)(len:Nat):Option Operand→Int|none=>len|some x=>match ev x with|.int _ n=>n|_=>-1
def zY{I:bs}{β:Nat→Value}{aZ:Operand→Value}{x:Operand}(h:∃k n,ev x=.int k n)(u:au I β (ev x) (aZ x)):∃k n,ev x=.int k n∧aZ x=.int k n:=by
 obtain⟨k,n,h⟩:=h;rw[h]at u;exact⟨k,n,h,jW u⟩
def vf(ev:Operand→Q):Option Operand→Prop|none=>True|some x=>∃k n,ev x=.int k n
def bK.slice{T E sz:Nat}{x:Operand}{f:Bool}{lo hi:Option Operand}{xs:List (List Q)}(h:o.op=.slice T x lo hi none)(u:iw σ (ev x) (.bf f xs))(aQ:kV G.P T E sz)(eA:∀e∈xs,e.length=sz)(xF:vf ev lo)(Ee:vf ev hi)
  (hb:0≤mm ev lo∧mm ev lo≤q5 ev xs.length hi∧q5 ev xs.length hi≤xs.length) (R:dg) (cf:∀az:Y,(∀d∈R,az.get d=σ.get d)→iw az (ev x) (.bf f xs)) :
  Yields G o ev σ [] R (.bf false ((xs.take (q5 ev xs.length hi).toNat).drop (mm ev lo).toNat)):=
 .pure λaz cx I β w aZ LF an hop=>by
  have h1:=(cf az LF).rep an _ (hop x (by simp[h,Op.operands]));simp only[au,bc]at h1;obtain⟨a,c,h1,D,aj,_,a1⟩:=h1;generalize aH:mm ev lo=l at hb ⊢;generalize cA:q5 ev xs.length hi=aA at hb ⊢;have aJ:(Instr.sliceBounds true xs.length c (lo.map aZ) (hi.map aZ) none).run G.P w=.ok (l.toNat,aA.toNat,c) w:=by
   have hu:0≤aA∧aA≤(c:Int):=by omega
   have GU:0≤l∧l≤(aA.toNat:Int):=by omega
   cases hi with
   |none=>
    simp only[q5]at cA;subst cA;cases lo with
    |none=>
     simp only[mm]at aH;subst aH;simp[Instr.sliceBounds]
    |some y=>
     obtain⟨k,n,ak,ar⟩:=zY xF (hop y (by simp[h,Op.operands]));simp only[mm,ak]at aH;subst aH;have:=run_sliceBound (P:=G.P) (k:=k) (code:=.sliceB) (w:=w) GU;simp only[Int.toNat_natCast]at this;simp[Instr.sliceBounds,ar,this]
   |some z=>
    obtain⟨Mx,nz,np,qD⟩:=zY Ee (hop z (by simp[h,Op.operands]));simp only[q5,np]at cA;subst cA;have gJ:=run_sliceBound (P:=G.P) (k:=Mx) (code:=.sliceAcap) (w:=w) hu;cases lo with
    |none=>
     simp only[mm]at aH;subst aH;simp[Instr.sliceBounds,qD,gJ]
    |some y=>
     obtain⟨k,n,ak,ar⟩:=zY xF (hop y (by simp[h,Op.operands]));simp only[mm,ak]at aH;subst aH;have:=run_sliceBound (P:=G.P) (k:=k) (code:=.sliceB) (w:=w) GU;simp[Instr.sliceBounds,qD,gJ,ar,this]
  have eY:(execOp aZ o).run G.P w=.ok (.value (.slice (if c=l.toNat then a else a.map (·.add (l.toNat*sz))) (aA.toNat-l.toNat) (c-l.toNat))) w:=by
   have e2:∀w,(underlying T).run G.P w=.ok (.slice E) w:=λw=>run_underlying aQ.gY w;simp only[execOp,h,Instr.sliceAt,Instr.slice,h1,Sem.run_bind,e2,Result.andThen_ok,aJ,aQ.size,Sem.run_pure,Option.map_none]
  refine⟨_,eY,?_⟩;simp only[au,bc];have xy:((xs.take aA.toNat).drop l.toNat).length=aA.toNat-l.toNat:=by rw[length_drop,length_take];omega
  refine⟨_,c-l.toNat,by rw[xy],by rw[xy];omega,by omega,by simp,?_⟩;by_cases he:(xs.take aA.toNat).drop l.toNat=[]
  ·exact .inl he
  ·right;have bL:l.toNat<aA.toNat:=by
    rcases Nat.lt_or_ge l.toNat aA.toNat with q|q
    ·exact q
    ·exact absurd (eq_nil_of_length_eq_zero (by rw[xy];omega)) he
   rcases a1 with rfl|⟨b,p,rfl,a1⟩
   ·simp at he
   ·refine⟨b,p+l.toNat*sz,?_,HV _ _ _ (λe cA=>eA e (mem_of_mem_take cA)) (M6 _ _ _ a1)⟩;rw[if_neg (by omega)];simp[mc]
end ops
end
end Go.Proofs.YtmnbolcmepihlaaGreat
