/- Several texts in one. No condition but those that stand in each. -/
import Derived.Orders
import Derived.Tactics
import Derived.Laws.World
import Derived.Below
import Derived.KernelRfl
import Derived.Laws.Small
import Derived.Laws.StructEq
import Derived.Laws.OwnMore
import Derived.Maps.AppendAt
namespace Go.Proofs.YtmnbolcmepihlaaGreat
set_option linter.all false
open Go
section
abbrev bw:=Nat→Option Nat→Option Value
def b7(I aS:bw):Prop:=∀b o v,I b o=some v→aS b o=some v
theorem b7.refl(I:bw):b7 I I:=λ_ _ _ h=>h
variable {I:bw}
theorem b7.trans{J K:bw}(h:b7 I J)(dc:b7 J K):b7 I K:=λ_ _ _ x=>dc _ _ _ (h _ _ _ x)
inductive mO where
 |Iv (f:Nat)
 |y2 (n:Nat)
 |row (i:Nat)
 |oI (i off:Nat)
 deriving DecidableEq
inductive U where
 |gq
 |undef
 |int (k:IntKind) (n:Int)
 |bool (b:Bool)
 |str (s:ByteArray)
 |aX (full:Bool) (xs:List (List U))
 |fP (cs:List U)
 |agg (cs:List U)
 |cD (vs:List U)
 |fn (f:Nat) (aF:List U)
 |cV
 |mm
 |own (d:Nat)
 |ptr (d off:Nat)
 |dm (d:Nat)
 |gp (f:Nat) (aF:List U)
 |kD
 |fm (k:mO) (d:Nat)
 |de (bx:List (U×U))
 |arr (xs:List Int)
 deriving Inhabited
def od(es:Array MapEntry)(clock:Nat):Value:=.tuple #[.int .i64 (clock:Int),.tuple (es.map λe=>.tuple #[e.key,e.val,.int .i64 (e.born:Int)])]
theorem F6{es gG:Array MapEntry}{c qG:Nat}(h:od es c=od gG qG):es=gG∧c=qG:=by
 simp only[od,Value.tuple.injEq,Array.mk.injEq,List.cons.injEq,Value.int.injEq,true_and,and_true,Int.ofNat_inj]at h;refine⟨?_,h.1⟩;refine Array.map_inj_right (λx y n5=>?_)|>.1 h.2;simp only[Value.tuple.injEq,Array.mk.injEq,List.cons.injEq,Value.int.injEq,true_and,and_true,Int.ofNat_inj]at n5;obtain⟨k,v,b⟩:=x;obtain⟨eM,dI,aN⟩:=y
 simp only at n5;obtain⟨rfl,rfl,rfl⟩:=n5;rfl
def iK(es:Array MapEntry)(clock:Nat):Prop:=(es.toList.map (·.born)).Nodup∧∀x∈es.toList,x.born<clock
mutual
def aO(I:bw):U→Value→Prop
 |.gq,_=>True
 |.undef,v=>v=Go.undef
 |.int k n,v=>v=.int k n
 |.bool b,v=>v=.bool b
 |.str s,v=>v=.string s
 |.aX full xs,v=>∃a c,v=.slice a xs.length c∧xs.length≤c∧c≤maxLen∧(full=true→c=xs.length)∧
   (xs=[]∨∃b o,a=some ⟨b,o,none⟩∧iG I b xs o)
 |.fP cs,v=>∃b o,v=.pointer (some ⟨b,o,none⟩)∧jY I b cs o
 |.agg cs,v=>∃vs,v=.agg vs∧b9 I cs vs.toList
 |.cD cs,v=>∃vs,v=.tuple vs∧b9 I cs vs.toList
 |.fn f aF,v=>∃vs,v=.func (.func f) #[] vs∧b9 I aF vs.toList
 |.cV,v=>v=.slice none 0 0
 |.mm,v=>v=.pointer none
 |.own _,_=>False
 |.ptr _ _,_=>False
 |.dm _,_=>False
 |.gp f aF,v=>∃vs,v=.func (.func f) #[] vs∧b9 I aF vs.toList
 |.kD,v=>∃a c,v=.slice (some a) 0 c∧c≤maxLen
 |.fm _ _,_=>False
 |.arr xs,v=>v=.agg (xs.map (Value.int .i64)).toArray
 |.de bx,v=>∃r es clock,v=.map (some r)∧I r none=some (od es clock)∧e9 I bx es.toList∧iK es clock
def e9(I:bw):List (U×U)→List MapEntry→Prop
 |[],es=>es=[]
 |(k,v)::r,es=>∃e bF,es=e::bF∧aO I k e.key∧aO I v e.val∧e9 I r bF
def b9(I:bw):List U→List Value→Prop
 |[],vs=>vs=[]
 |x::r,vs=>∃ay bF,vs=ay::bF∧aO I x ay∧b9 I r bF
def jY(I:bw)(b:Nat):List U→Nat→Prop
 |[],_=>True
 |x::r,o=>(∃ay,I b o=some ay∧aO I x ay)∧jY I b r (o+1)
def iG(I:bw)(b:Nat):List (List U)→Nat→Prop
 |[],_=>True
 |e::r,o=>jY I b e o∧iG I b r (o+e.length)
end
def iy:Value→Bool|.slice ..=>true|_=>false
def k3:Value→Bool|.map ..=>true|_=>false
def bV:Value→Option Nat
 |.pointer (some a)=>some a.block
 |.slice (some a) _ _=>some a.block
 |.map (some r)=>some r
 |_=>none
def dA:Value→List Nat
 |.tuple vs=>vs.toList.filterMap bV
 |v=>(bV v).toList
variable {b:Nat}
theorem je{v:Value}(h:bV v=some b):b∈dA v:=by
 cases v<;>first|(simp[bV]at h;done)|(simp only[dA,h];simp)
theorem C0{v:Value}{aN:Nat}(h:bV v=some b)(dc:aN∈dA v):aN=b:=by
 cases v<;>first|(simp[bV]at h;done)|(simp only[dA,h]at dc;simpa using dc)
theorem KT:dA .nilFunc=[]:=rfl
theorem GC:dA (.slice none 0 0)=[]:=rfl
def mO.rep:mO→Value→Value→Prop
 |.Iv f,h,v=>∃b,bV h=some b∧v=.func (.func f) #[.pointer (some ⟨b,0,none⟩)] #[]
 |.y2 n,h,v=>∃b,bV h=some b∧v=.slice (some ⟨b,0,none⟩) n n
 |.row i,h,v=>∃W:Array Value,h=.tuple W∧W.toList[i]?=some v
 |.oI i off,h,v=>∃(W:Array Value) (ay:Value) (b:Nat),h=.tuple W∧W.toList[i]?=some ay∧bV ay=some b∧v=.pointer (some ⟨b,off,none⟩)
theorem mO.YB{k:mO}{v:Value}(h:k.rep .nilFunc v):False:=by
 cases k with
 |Iv f=>obtain⟨b,h,_⟩:=h;cases h
 |y2 n=>obtain⟨b,h,_⟩:=h;cases h
 |row i=>obtain⟨W,h,_⟩:=h;cases h
 |oI i off=>obtain⟨W,ay,b,h,_⟩:=h;cases h
mutual
def ar(I:bw)(β:Nat→Value):U→Value→Prop
 |.agg cs,v=>∃vs,v=.agg vs∧bO I β cs vs.toList
 |.cD cs,v=>∃vs,v=.tuple vs∧bO I β cs vs.toList
 |.fn f aF,v=>∃vs,v=.func (.func f) #[] vs∧bO I β aF vs.toList
 |.own d,v=>v=β d∧iy v=true
 |.ptr d off,v=>∃b,bV (β d)=some b∧v=.pointer (some ⟨b,off,none⟩)
 |.dm d,v=>v=β d∧k3 v=true
 |.gq,_=>True
 |.undef,v=>aO I .undef v
 |.int k n,v=>aO I (.int k n) v
 |.bool b,v=>aO I (.bool b) v
 |.str s,v=>aO I (.str s) v
 |.aX f xs,v=>aO I (.aX f xs) v
 |.fP cs,v=>aO I (.fP cs) v
 |.cV,v=>aO I .cV v
 |.mm,v=>aO I .mm v
 |.gp f aF,v=>aO I (.gp f aF) v
 |.kD,v=>aO I .kD v
 |.fm k d,v=>k.rep (β d) v
 |.de bx,v=>aO I (.de bx) v
 |.arr xs,v=>aO I (.arr xs) v
def bO(I:bw)(β:Nat→Value):List U→List Value→Prop
 |[],vs=>vs=[]
 |x::r,vs=>∃ay bF,vs=ay::bF∧ar I β x ay∧bO I β r bF
end
mutual
theorem jy{I aS:bw}(h:b7 I aS):∀(x:U) (v:Value),aO I x v→aO aS x v
 |.gq,_,_=>trivial
 |.undef,_,r=>r
 |.int _ _,_,r=>r
 |.bool _,_,r=>r
 |.str _,_,r=>r
 |.aX full xs,v,r=>by
   simp only[aO]at r ⊢;obtain⟨a,c,h1,D,ak,bc,bX⟩:=r;refine⟨a,c,h1,D,ak,bc,?_⟩;rcases bX with bX|⟨b,o,bX,dV⟩
   ·exact .inl bX
   ·exact .inr ⟨b,o,bX,xX h xs b o dV⟩
 |.fP cs,v,r=>by
   simp only[aO]at r ⊢;obtain⟨b,o,h1,D⟩:=r;exact⟨b,o,h1,KY h cs b o D⟩
 |.agg cs,v,r=>by
   simp only[aO]at r ⊢;obtain⟨vs,h1,D⟩:=r;exact⟨vs,h1,mC h cs _ D⟩
 |.cD cs,v,r=>by
   simp only[aO]at r ⊢;obtain⟨vs,h1,D⟩:=r;exact⟨vs,h1,mC h cs _ D⟩
 |.fn f aF,v,r=>by
   simp only[aO]at r ⊢;obtain⟨vs,h1,D⟩:=r;exact⟨vs,h1,mC h aF _ D⟩
 |.cV,_,r=>r
 |.mm,_,r=>r
 |.own _,_,r=>r
 |.ptr _ _,_,r=>r
 |.dm _,_,r=>r
 |.gp f aF,v,r=>by
   simp only[aO]at r ⊢;obtain⟨vs,h1,D⟩:=r;exact⟨vs,h1,mC h aF _ D⟩
 |.kD,_,r=>by simp only[aO]at r ⊢;exact r
 |.fm _ _,_,r=>r
 |.arr _,v,r=>by simpa only[aO]using r
 |.de bx,v,r=>by
   simp only[aO]at r ⊢;obtain⟨b,es,clock,h1,D,ak,bc⟩:=r;exact⟨b,es,clock,h1,h _ _ _ D,lP h bx _ ak,bc⟩
theorem lP{I aS:bw}(h:b7 I aS):∀(x:List (U×U)) (es:List MapEntry),e9 I x es→e9 aS x es
 |[],_,r=>r
 |(k,ay)::x,es,r=>by
   simp only[e9]at r ⊢;obtain⟨e,bF,h1,D,ak,bc⟩:=r;exact⟨e,bF,h1,jy h k _ D,jy h ay _ ak,lP h x bF bc⟩
theorem mC{I aS:bw}(h:b7 I aS):∀(x:List U) (v:List Value),b9 I x v→b9 aS x v
 |[],_,r=>r
 |x::xs,v,r=>by
   simp only[b9]at r ⊢;obtain⟨ay,bF,h1,D,ak⟩:=r;exact⟨ay,bF,h1,jy h x ay D,mC h xs bF ak⟩
theorem KY{I aS:bw}(h:b7 I aS):∀(x:List U) (b o:Nat),jY I b x o→jY aS b x o
 |[],_,_,r=>r
 |x::xs,b,o,r=>by
   simp only[jY]at r ⊢;obtain⟨⟨ay,h1,D⟩,ak⟩:=r;exact⟨⟨ay,h _ _ _ h1,jy h x ay D⟩,KY h xs b (o+1) ak⟩
theorem xX{I aS:bw}(h:b7 I aS):∀(x:List (List U)) (b o:Nat),iG I b x o→iG aS b x o
 |[],_,_,r=>r
 |x::xs,b,o,r=>by
   simp only[iG]at r ⊢;exact⟨KY h x b o r.1,xX h xs b (o+x.length) r.2⟩
end
def g0(β β':Nat→Value):Prop:=∀d,β d=.nilFunc∨β' d=β d
theorem g0.refl(β:Nat→Value):g0 β β:=λ_=>.inr rfl
mutual
theorem yc{I aS:bw}{β β':Nat→Value}(h:b7 I aS)(V:g0 β β'):∀(x:U) (v:Value),ar I β x v→ar aS β' x v
 |.gq,_,_=>trivial
 |.undef,v,r=>by simp only[ar]at r ⊢;exact jy h _ v r
 |.int _ _,v,r=>by simp only[ar]at r ⊢;exact jy h _ v r
 |.bool _,v,r=>by simp only[ar]at r ⊢;exact jy h _ v r
 |.str _,v,r=>by simp only[ar]at r ⊢;exact jy h _ v r
 |.aX _ _,v,r=>by simp only[ar]at r ⊢;exact jy h _ v r
 |.fP _,v,r=>by simp only[ar]at r ⊢;exact jy h _ v r
 |.cV,v,r=>by simp only[ar]at r ⊢;exact jy h _ v r
 |.mm,v,r=>by simp only[ar]at r ⊢;exact jy h _ v r
 |.gp _ _,v,r=>by simp only[ar]at r ⊢;exact jy h _ v r
 |.kD,v,r=>by simp only[ar]at r ⊢;exact jy h _ v r
 |.de _,v,r=>by simp only[ar]at r ⊢;exact jy h _ v r
 |.arr _,v,r=>by simp only[ar]at r ⊢;exact jy h _ v r
 |.agg cs,v,r=>by
   simp only[ar]at r ⊢;obtain⟨vs,h1,D⟩:=r;exact⟨vs,h1,rT h V cs _ D⟩
 |.cD cs,v,r=>by
   simp only[ar]at r ⊢;obtain⟨vs,h1,D⟩:=r;exact⟨vs,h1,rT h V cs _ D⟩
 |.fn f aF,v,r=>by
   simp only[ar]at r ⊢;obtain⟨vs,h1,D⟩:=r;exact⟨vs,h1,rT h V aF _ D⟩
 |.own d,v,r=>by
   simp only[ar]at r ⊢;obtain⟨rfl,D⟩:=r;rcases V d with e|e
   ·rw[e]at D;simp[iy]at D
   ·exact⟨e.symm,D⟩
 |.dm d,v,r=>by
   simp only[ar]at r ⊢;obtain⟨rfl,D⟩:=r;rcases V d with e|e
   ·rw[e]at D;simp[k3]at D
   ·exact⟨e.symm,D⟩
 |.ptr d off,v,r=>by
   simp only[ar]at r ⊢;obtain⟨b,h1,D⟩:=r;rcases V d with e|e
   ·rw[e]at h1;simp[bV]at h1
   ·exact⟨b,by rw[e];exact h1,D⟩
 |.fm k d,v,r=>by
   simp only[ar]at r ⊢;rcases V d with e|e
   ·rw[e]at r;exact(mO.YB r).elim
   ·rw[e];exact r
theorem rT{I aS:bw}{β β':Nat→Value}(h:b7 I aS)(V:g0 β β'):∀(x:List U) (v:List Value),bO I β x v→bO aS β' x v
 |[],_,r=>r
 |x::xs,v,r=>by
   simp only[bO]at r ⊢;obtain⟨ay,bF,h1,D,ak⟩:=r;exact⟨ay,bF,h1,yc h V x ay D,rT h V xs bF ak⟩
end
mutual
def U.refs(p:Nat→Bool):U→Bool
 |.agg cs=>nE p cs
 |.cD cs=>nE p cs
 |.fn _ cs=>nE p cs
 |.own d=>p d
 |.ptr d _=>p d
 |.fm _ d=>p d
 |.dm d=>p d
 |_=>false
def nE(p:Nat→Bool):List U→Bool
 |[]=>false
 |x::r=>x.refs p||nE p r
end
mutual
theorem td{I:bw}{β β':Nat→Value}{p:Nat→Bool}(V:∀d,p d=false→β' d=β d):∀(x:U) (v:Value),x.refs p=false→ar I β x v→ar I β' x v
 |.gq,_,_,_=>trivial
 |.undef,v,_,r=>by simp only[ar]at r ⊢;exact r
 |.int _ _,v,_,r=>by simp only[ar]at r ⊢;exact r
 |.bool _,v,_,r=>by simp only[ar]at r ⊢;exact r
 |.str _,v,_,r=>by simp only[ar]at r ⊢;exact r
 |.aX _ _,v,_,r=>by simp only[ar]at r ⊢;exact r
 |.fP _,v,_,r=>by simp only[ar]at r ⊢;exact r
 |.cV,v,_,r=>by simp only[ar]at r ⊢;exact r
 |.mm,v,_,r=>by simp only[ar]at r ⊢;exact r
 |.gp _ _,v,_,r=>by simp only[ar]at r ⊢;exact r
 |.kD,v,_,r=>by simp only[ar]at r ⊢;exact r
 |.de _,v,_,r=>by simp only[ar]at r ⊢;exact r
 |.arr _,v,_,r=>by simp only[ar]at r ⊢;exact r
 |.agg cs,v,e,r=>by
   simp only[ar,U.refs]at r e ⊢;obtain⟨vs,h1,D⟩:=r;exact⟨vs,h1,CU V cs _ e D⟩
 |.cD cs,v,e,r=>by
   simp only[ar,U.refs]at r e ⊢;obtain⟨vs,h1,D⟩:=r;exact⟨vs,h1,CU V cs _ e D⟩
 |.fn f aF,v,e,r=>by
   simp only[ar,U.refs]at r e ⊢;obtain⟨vs,h1,D⟩:=r;exact⟨vs,h1,CU V aF _ e D⟩
 |.own d,v,e,r=>by
   simp only[ar,U.refs]at r e ⊢;rw[V d e];exact r
 |.dm d,v,e,r=>by
   simp only[ar,U.refs]at r e ⊢;rw[V d e];exact r
 |.ptr d off,v,e,r=>by
   simp only[ar,U.refs]at r e ⊢;rw[V d e];exact r
 |.fm k d,v,e,r=>by
   simp only[ar,U.refs]at r e ⊢;rw[V d e];exact r
theorem CU{I:bw}{β β':Nat→Value}{p:Nat→Bool}(V:∀d,p d=false→β' d=β d):∀(x:List U) (v:List Value),nE p x=false→bO I β x v→bO I β' x v
 |[],_,_,r=>r
 |x::xs,v,e,r=>by
   simp only[bO,nE,Bool.or_eq_false_iff]at r e ⊢;obtain⟨ay,bF,h1,D,ak⟩:=r;exact⟨ay,bF,h1,td V x ay e.1 D,CU V xs bF e.2 ak⟩
end
inductive gP where
 |sl (T:TypeId) (sz:Nat) (xs:List (List U))
 |mp (K E:TypeId) (bx:List (U×U))
inductive cn where
 |cells (T:TypeId) (cs:List U)
 |slice (T:TypeId) (sz:Nat) (xs:List (List U)) (k:Nat) (cU:Bool)
 |map (K E:TypeId) (bx:List (U×U))
 |win (T:TypeId) (sz:Nat) (xs:List (List U))
 |k4 (K E:TypeId) (bx:List (U×U))
 |gj (es:Array MapEntry) (clock:Nat) (K E:TypeId) (bx:List (U×U))
 |iter (cT pM kI:Nat) (seen:Array Nat)
 |hdr (cT n:Nat)
 |cS (cR:List gP)
 |fV (T:TypeId) (e n:Nat) (dL:Option (Option Nat×Nat))
 |iX (K E:TypeId) (e:Nat) (jr:List U) (dL:Option (Option Nat×Nat)) (fx:Option (Array MapEntry×Nat))
 |gZ (T:TypeId) (xs:List (List U)) (t:Nat)
 |vec (T:TypeId) (xs:List Int)
 |ig (es:Array MapEntry) (clock:Nat) (bx:List (U×U)) (seen:Array Nat)
abbrev Y:=List (Nat×cn)
def Y.get:Y→Nat→Option cn
 |[],_=>none
 |(k,v)::r,n=>bif Nat.beq k n then some v else Y.get r n
abbrev ai:=List (Nat×U)
def ai.get:ai→Nat→U
 |[],_=>.gq
 |(k,v)::r,n=>bif Nat.beq k n then v else ai.get r n
def ai.put(env:ai)(d:Option Nat)(v:U):ai:=match d with|some t=>(t,v)::env|none=>env
theorem ai.c4(k:Nat)(v:U)(r:ai)(n:Nat):ai.get ((k,v)::r) n=if k=n then v else ai.get r n:=by
 simp only[ai.get];by_cases h:k=n
 ·subst h;simp
 ·have:Nat.beq k n=false:=by rw[←Bool.not_eq_true,Nat.beq_eq];exact h
  simp[this,h]
theorem Y.c4(k:Nat)(v:cn)(r:Y)(n:Nat):Y.get ((k,v)::r) n=if k=n then some v else Y.get r n:=by
 simp only[Y.get];by_cases h:k=n
 ·subst h;simp
 ·have:Nat.beq k n=false:=by rw[←Bool.not_eq_true,Nat.beq_eq];exact h
  simp[this,h]
mutual
def kT:Value→U
 |.int k n=>.int k n
 |.bool b=>.bool b
 |.string s=>.str s
 |.slice none 0 0=>.cV
 |.pointer none=>.mm
 |.agg ⟨cs⟩=>.agg (qe cs)
 |_=>.gq
def qe:List Value→List U
 |[]=>[]
 |x::r=>kT x::qe r
end
mutual
theorem L0(I:bw)(β:Nat→Value):∀v,ar I β (kT v) v
 |.int k n=>by simp[kT,ar,aO]
 |.bool b=>by simp[kT,ar,aO]
 |.string s=>by simp[kT,ar,aO]
 |.slice none 0 0=>by simp[kT,ar,aO]
 |.slice none 0 (n+1)=>by simp[kT,ar]
 |.slice none (m+1) n=>by simp[kT,ar]
 |.slice (some a) m n=>by simp[kT,ar]
 |.pointer none=>by simp[kT,ar,aO]
 |.pointer (some a)=>by simp[kT,ar]
 |.agg ⟨cs⟩=>by simp only[kT,ar];exact⟨_,rfl,F7 I β cs⟩
 |.float _ _=>by simp[kT,ar]
 |.complex _ _ _=>by simp[kT,ar]
 |.map _=>by simp[kT,ar]
 |.chan _=>by simp[kT,ar]
 |.func _ _ _=>by simp[kT,ar]
 |.nilFunc=>by simp[kT,ar]
 |.iface _ _=>by simp[kT,ar]
 |.nilIface=>by simp[kT,ar]
 |.tuple _=>by simp[kT,ar]
theorem F7(I:bw)(β:Nat→Value):∀vs,bO I β (qe vs) vs
 |[]=>by simp[qe,bO]
 |x::r=>by simp only[qe,bO];exact⟨x,r,rfl,L0 I β x,F7 I β r⟩
end
def ai.ev(env:ai):Operand→U
 |.tmp t=>env.get t
 |.const v=>kT v
 |.func f=>.fn f []
 |.global _=>.gq
structure cq where
 P:Program
 N:Nat
 ids:List Nat
structure eO where
 B:Nat
 w0:World
 I0:bw
 xk:List Nat
 u7:Nat→Value
def Place(cx:eO)(b:Nat):Prop:=cx.B≤b∨b∈cx.xk
def jN(cx:eO)(I:bw)(w:World):gP→Value→Prop
 |.sl T sz xs,v=>(v=.slice none 0 0∧xs=[])∨
   ∃b aF arr,v=.slice (some ⟨b,0,none⟩) xs.length aF∧xs.length≤aF∧aF≤maxLen∧w.heap[b]?=some (.cells arr T (0,0))∧arr.size=aF*sz∧
    b9 I xs.flatten (arr.toList.take (xs.length*sz))∧(∀e∈xs,e.length=sz)∧(∀o:Nat,I b o=none)∧Place cx b
 |.mp _ _ bx,v=>∃r es clock,v=.map (some r)∧w.heap[r]?=some (.map es clock)∧e9 I bx es.toList∧(∀o,I r o=none)∧Place cx r∧iK es clock
def hp(cx:eO)(I:bw)(w:World):List gP→List Value→Prop
 |[],vs=>vs=[]
 |x::r,vs=>∃ay bF,vs=ay::bF∧jN cx I w x ay∧(∀b,bV ay=some b→b∉bF.filterMap bV)∧hp cx I w r bF
def i3(β:Nat→Value)(W as:List Value):Option (Option Nat×Nat)→Prop
 |none=>as=W
 |some (none,_)=>as=W
 |some (some i,t)=>i<W.length∧β t≠.nilFunc∧as=W.set i (β t)
def lR(I:bw):List U→List Value→List MapEntry→Prop
 |[],vs,es=>vs=[]∧es=[]
 |k::ks,vs,es=>∃v bF e kO,vs=v::bF∧es=e::kO∧aO I k e.key∧e.val=v∧lR I ks bF kO
def aU(cx:eO)(I:bw)(β:Nat→Value)(w:World)(d:Nat):cn→Prop
  |.cells T cs=>β d=.nilFunc∨∃b arr,β d=.pointer (some ⟨b,0,none⟩)∧w.heap[b]?=some (.cells arr T (0,0))∧bO I β cs arr.toList∧(∀o,I b o=none)∧Place cx b
  |.slice T sz xs k cU=>β d=.nilFunc∨(β d=.slice none 0 0∧xs=[]∧k=0)∨
      ∃b aF arr,β d=.slice (some ⟨b,0,none⟩) xs.length aF∧xs.length≤aF∧aF≤maxLen∧w.heap[b]?=some (.cells arr T (0,0))∧arr.size=aF*sz∧
        b9 I xs.flatten (arr.toList.take (xs.length*sz))∧(∀e∈xs,e.length=sz)∧k≤xs.length∧
        (cU=true→∀o,o<xs.length*sz→I b o=arr[o]?)∧(∀o,k*sz≤o→I b o=none)∧Place cx b
  |.map _ _ bx=>β d=.nilFunc∨∃r es clock,β d=.map (some r)∧w.heap[r]?=some (.map es clock)∧e9 I bx es.toList∧(∀o,I r o=none)∧Place cx r∧iK es clock
  |.k4 _ _ bx=>β d=.nilFunc∨∃r es clock,β d=.map (some r)∧I r none=some (od es clock)∧e9 I bx es.toList∧Place cx r∧iK es clock
  |.gj es clock _ _ bx=>β d=.nilFunc∨∃r,β d=.map (some r)∧w.heap[r]?=some (.map es clock)∧e9 I bx es.toList∧(∀o,I r o=none)∧Place cx r∧iK es clock
  |.iter cT pM kI seen=>β d=.nilFunc∨∃r fh,β d=.pointer (some ⟨r,0,none⟩)∧bV (β cT)=some fh∧w.heap[r]?=some (.mapIter (some fh) pM seen kI)∧(∀o,I r o=none)∧Place cx r
  |.hdr cT n=>β d=.pointer none∧∃a c,β cT=.slice a n c
  |.cS cR=>β d=.nilFunc∨∃W:Array Value,β d=.tuple W∧hp cx I w cR W.toList
  |.fV T e n dL=>β d=.nilFunc∨∃b aF arr W,β d=.slice (some ⟨b,0,none⟩) n aF∧n≤aF∧aF≤maxLen∧w.heap[b]?=some (.cells arr T (0,0))∧arr.size=aF∧
        β e=.tuple W∧W.size=n∧i3 β W.toList (arr.toList.take n) dL∧(∀o:Nat,I b o=none)∧Place cx b
  |.iX _ _ e jr dL fx=>β d=.nilFunc∨∃r es clock W as,β d=.map (some r)∧w.heap[r]?=some (.map es clock)∧β e=.tuple W∧i3 β W.toList as dL∧lR I jr as es.toList∧
        (∀o,I r o=none)∧Place cx r∧iK es clock∧(∀q,fx=some q→q=(es,clock))
  |.gZ T xs t=>β d=.nilFunc∨∃b aF arr,β d=.slice (some ⟨b,0,none⟩) (xs.length+1) aF∧xs.length+1≤aF∧aF≤maxLen∧w.heap[b]?=some (.cells arr T (0,0))∧arr.size=aF∧
        b9 I xs.flatten (arr.toList.take xs.length)∧(∀e∈xs,e.length=1)∧arr[xs.length]?=some (β t)∧β t≠.nilFunc∧(∀o:Nat,I b o=none)∧Place cx b
  |.vec T xs=>β d=.nilFunc∨∃b arr,β d=.pointer (some ⟨b,0,none⟩)∧w.heap[b]?=some (.cells arr T (0,0))∧arr.toList=xs.map (Value.int .i64)∧(∀o,I b o=none)∧Place cx b
  |.ig es clock bx seen=>β d=.nilFunc∨∃r fh,β d=.pointer (some ⟨r,0,none⟩)∧w.heap[r]?=some (.mapIter (some fh) clock seen clock)∧I fh none=some (od es clock)∧e9 I bx es.toList∧iK es clock∧(∀o,I r o=none)∧Place cx r
  |.win T sz xs=>β d=.nilFunc∨(β d=.slice none 0 0∧xs=[])∨
      ∃b eG aF arr,β d=.slice (some ⟨b,eG,none⟩) xs.length aF∧xs.length≤aF∧aF≤maxLen∧w.heap[b]?=some (.cells arr T (0,0))∧(xs.length<aF→eG+aF*sz≤arr.size)∧
        iG I b xs eG∧(∀e∈xs,e.length=sz)∧(xs.length<aF→∀o,eG+xs.length*sz≤o→I b o=none)∧Place cx b
variable {W as:List Value}{dL:Option (Option Nat×Nat)}{β:Nat→Value}
theorem i3.len(h:i3 β W as dL):as.length=W.length:=by
 cases dL with
 |none=>rw[show as=W from h]
 |some q=>
  obtain⟨i,t⟩:=q;cases i with
  |none=>rw[show as=W from h]
  |some i=>obtain⟨_,_,h⟩:=h;rw[h,List.length_set]
variable {cx:eO}{w:World}
theorem jN.go{nu:eO}{aS:bw}{w':World}{x:gP}{v:Value}(hle:b7 I aS)(V:∀b,bV v=some b→(b<w.heap.size→w'.heap[b]?=w.heap[b]?)∧(∀o,aS b o=I b o)∧(Place cx b→Place nu b))(h:jN cx I w x v):jN nu aS w' x v:=by
 cases x with
 |sl T sz xs=>
  rcases h with h|⟨b,aF,arr,h1,D,ak,bc,bX,dV,fF,jm,hY⟩
  ·exact .inl h
  ·obtain⟨cF,cW,ht⟩:=V b (by rw[h1];rfl);exact .inr ⟨b,aF,arr,h1,D,ak,(cF (Array.getElem?_eq_some_iff.1 bc).1).trans bc,bX,mC hle _ _ dV,fF,λo=>(cW o).trans (jm o),ht hY⟩
 |mp K E bx=>
  obtain⟨r,es,clock,h1,D,ak,bc,bX,dV⟩:=h;obtain⟨cF,cW,ht⟩:=V r (by rw[h1];rfl);exact⟨r,es,clock,h1,(cF (Array.getElem?_eq_some_iff.1 D).1).trans D,lP hle _ _ ak,λo=>(cW o).trans (bc o),ht bX,dV⟩
theorem hp.go{cx nu:eO}{I aS:bw}{w w':World}(hle:b7 I aS):∀{cR:List gP} {vs:List Value},(∀b∈vs.filterMap bV,(b<w.heap.size→w'.heap[b]?=w.heap[b]?)∧(∀o,aS b o=I b o)∧(Place cx b→Place nu b))→hp cx I w cR vs→hp nu aS w' cR vs
 |[],_,_,h=>h
 |x::r,vs,V,h=>by
  obtain⟨ay,bF,rfl,h1,D,ak⟩:=h;refine⟨ay,bF,rfl,h1.go hle λb jI=>V b ?_,D,hp.go hle (λb hf=>V b ?_) ak⟩
  ·simp[jI]
  ·rw[List.filterMap_cons];split
   ·exact hf
   ·exact List.mem_cons_of_mem _ hf
theorem lR.mono{I aS:bw}(hle:b7 I aS):∀{ks:List U} {vs:List Value} {es:List MapEntry},lR I ks vs es→lR aS ks vs es
 |[],_,_,h=>h
 |k::ks,vs,es,h=>by
  obtain⟨v,bF,e,kO,h1,D,ak,bc,bX⟩:=h;exact⟨v,bF,e,kO,h1,D,jy hle k _ ak,bc,lR.mono hle bX⟩
variable {β':Nat→Value}
theorem i3.hle(V:g0 β β')(h:i3 β W as dL):i3 β' W as dL:=by
 cases dL with
 |none=>exact h
 |some q=>
  obtain⟨i,t⟩:=q;cases i with
  |none=>exact h
  |some i=>
   obtain⟨h1,D,ak⟩:=h;rcases V t with e|e
   ·exact absurd e D
   ·exact⟨h1,by rw[e];exact D,by rw[e];exact ak⟩
theorem i3.beta(V:∀i t,dL=some (i,t)→β' t=β t)(h:i3 β W as dL):i3 β' W as dL:=by
 cases dL with
 |none=>exact h
 |some q=>obtain⟨i,t⟩:=q;cases i<;>simp only[i3,V _ t rfl]at h ⊢<;>exact h
theorem aU.heap{cx:eO}{I:bw}{β:Nat→Value}{w w':World}{d:Nat}{o:cn}(e:w'.heap=w.heap)(h:aU cx I β w d o):aU cx I β w' d o:=by
 cases o with
 |cS cR=>
  simp only[aU]at h ⊢;rcases h with q|⟨W,an,au⟩
  ·exact .inl q
  ·exact .inr ⟨W,an,au.go (b7.refl I) λb _=>⟨λ_=>by rw[e],λ_=>rfl,id⟩⟩
 |_=>simpa only[aU,e]using h
def bw.on(I:bw)(f:Nat→Nat→Option Value):bw:=λb o=>match o with
 |none=>I b none
 |some o=>f b o
structure bS(G:cq)(cx:eO)(I:bw)(β:Nat→Value)(σ:Y)(w:World):Prop where
 good:∀b (o:Nat) v,I b o=some v→w.cell? ⟨b,o,none⟩=some v
 h9:∀b v,I b none=some v→∃es clock,w.heap[b]?=some (.map es clock)∧v=od es clock
 ja:b7 cx.I0 I
 iL:∀b,b<cx.B→b∉cx.xk→∀o,I b o=cx.I0 b o
 frame:∀b,b<cx.B→b∉cx.xk→w.heap[b]?=cx.w0.heap[b]?
 size:cx.B≤w.heap.size
 tape:w.tape=cx.w0.tape
 os:w.os=cx.w0.os
 output:w.output=cx.w0.output
 drawn:cx.w0.drawn≤w.drawn
 cB:∀d o,σ.get d=some o→aU cx I β w d o
 dn:∀d eD,(σ.get d).isSome→(σ.get eD).isSome→d≠eD→∀b∈dA (β d),b∉dA (β eD)
 keep:∀d∈G.ids,β d=cx.u7 d
variable {G:cq}{σ:Y}
theorem bS.sep(h:bS G cx I β σ w):∀d eD,(σ.get d).isSome→(σ.get eD).isSome→d≠eD→∀b,bV (β d)=some b→bV (β eD)≠some b:=
 λd eD h1 D ct b V hf=>h.dn d eD h1 D ct b (je V) (je hf)
def kM(P:Program)(Φ:Value→World→Prop):Result Next→Prop
 |.ok (.value v) w'=>Φ v w'
 |.ok .skip w'=>Φ undef w'
 |.ok (.enter f args) w'=>Calls P f args w' (λe sL=>∃v,e=.returned v∧Φ v sL)
 |_=>False
theorem kM.wp{P:Program}{o:Oper}{a:Act}{w:World}{Φ:Value→World→Prop}{K:Act→World→Prop}{Q:Exit→Act→World→Prop}
  (h:kM P Φ ((execOp a.eval o).run P w)) (hk:∀v w',Φ v w'→K (a.put o.dst v) w'):o.wp P a w K Q:=by
 unfold Oper.wp;generalize (execOp a.eval o).run P w=r at h;cases r with
 |halt x w'=>exact h.elim
 |ok n w'=>
  cases n<;>simp only[kM]at h<;>simp only[Oper.upon]
  case value v=>exact hk _ _ h
  case skip=>exact hk _ _ h
  case enter f args=>
   exact Calls.mono h λe sL ⟨v,he,af⟩=>by subst he;exact hk _ _ af
def Yields(G:cq)(o:Oper)(ev:Operand→U)(σ:Y)(dD R:List Nat)(bE:U):Prop:=
 ∀(az:Y) (cx:eO) (I:bw) (β:Nat→Value) (w:World) (aP:Operand→Value),(∀d∈R,az.get d=σ.get d)→bS G cx I β az w→(∀d∈dD,β d=.nilFunc)→
  (∀x∈o.op.operands,ar I β (ev x) (aP x))→
  kM G.P (λv w'=>∃aS β',ar aS β' bE v∧bS G cx aS β' az w'∧b7 I aS∧(∀d,d∉dD→β' d=β d)) ((execOp aP o).run G.P w)
def g8(G:cq)(o:Oper)(ev:Operand→U)(σ:Y)(M news:List Nat)(Φ:U→Y→Prop):Prop:=
 ∀(cx:eO) (I:bw) (β:Nat→Value) (w:World) (aP:Operand→Value),bS G cx I β σ w→(∀x∈o.op.operands,ar I β (ev x) (aP x))→
  kM G.P (λv w'=>∃bE az aS β',Φ bE az∧ar aS β' bE v∧bS G cx aS β' az w'∧b7 I aS∧(∀d,d∉news→β' d=β d)∧(∀d,d∉M→az.get d=σ.get d)) ((execOp aP o).run G.P w)
mutual
theorem LN{p:Nat→Bool}(h:∀d,p d=false):∀x:U,x.refs p=false
 |.gq|.undef|.int _ _|.bool _|.str _|.aX _ _|.fP _|.cV|.mm|.gp _ _|.kD|.de _|.arr _=>rfl
 |.agg cs=>by simp only[U.refs];exact vU h cs
 |.cD cs=>by simp only[U.refs];exact vU h cs
 |.fn _ cs=>by simp only[U.refs];exact vU h cs
 |.own d=>h d
 |.ptr d _=>h d
 |.fm _ d=>h d
 |.dm d=>h d
theorem vU{p:Nat→Bool}(h:∀d,p d=false):∀x:List U,nE p x=false
 |[]=>rfl
 |x::r=>by simp only[nE,LN h x,vU h r,Bool.or_self]
end
def ai.clean(p:Nat→Bool):ai→Bool
 |[]=>true
 |(_,v)::r=>!v.refs p&&ai.clean p r
def nw(p:Nat→Bool):cn→Bool
 |.cells _ cs=>nE p cs
 |.iter cT _ _ _=>p cT
 |.hdr cT _=>p cT
 |.fV _ e _ h=>p e||(match h with|some (_,t)=>p t|none=>false)
 |.iX _ _ e _ h _=>p e||(match h with|some (_,t)=>p t|none=>false)
 |.gZ _ _ t=>p t
 |_=>false
def Y.clean(p:Nat→Bool):Y→Bool
 |[]=>true
 |(d,v)::r=>!p d&&!nw p v&&Y.clean p r
theorem ai.iu{p:Nat→Bool}:∀{env:ai},env.clean p=true→∀t,(env.get t).refs p=false
 |[],_,t=>by simp[ai.get,U.refs]
 |(k,v)::r,h,t=>by
   simp only[ai.clean,Bool.and_eq_true,Bool.not_eq_true']at h;rw[ai.c4];split
   ·exact h.1
   ·exact ai.iu h.2 t
theorem Y.iu{p:Nat→Bool}:∀{σ:Y},σ.clean p=true→∀d o,σ.get d=some o→p d=false∧nw p o=false
 |[],_,d,o,e=>by simp[Y.get]at e
 |(k,v)::r,h,d,o,e=>by
   simp only[Y.clean,Bool.and_eq_true,Bool.not_eq_true']at h;rw[Y.c4]at e;split at e
   ·rename_i hk;subst hk;cases e;exact⟨h.1.1,h.1.2⟩
   ·exact Y.iu h.2 d o e
theorem ai.pR(e:ai):e.clean ([]:List Nat).contains=true:=by
 induction e with
 |nil=>rfl
 |cons x r bD=>simp only[ai.clean,bD,LN (p:=([]:List Nat).contains) (λ_=>rfl) x.2,Bool.not_false,Bool.and_self]
theorem Y.pR(e:Y):e.clean ([]:List Nat).contains=true:=by
 induction e with
 |nil=>rfl
 |cons x r bD=>
  have:nw ([]:List Nat).contains x.2=false:=by
   obtain⟨d,o⟩:=x;cases o with
   |cells T cs=>exact vU (λ_=>rfl) _
   |fV T e n h=>cases h<;>rfl
   |iX K E e jr h fx=>cases h<;>rfl
   |_=>rfl
  simp only[Y.clean,bD,this];rfl
def P7:cn→Bool
 |.hdr _ _=>false
 |_=>true
def uX(G:cq)(σ:Y)(dD:List Nat)(σ2:Y)(env:ai):Prop:=
 (∀d,d∉dD→σ2.get d=σ.get d)∧(∀d∈dD,d∉G.ids)∧env.clean dD.contains=true∧σ.clean dD.contains=true∧∀d∈dD,∀cT n,σ2.get d≠some (.hdr cT n)
theorem uX.none(G:cq)(σ:Y)(env:ai):uX G σ [] σ env:=⟨λ_ _=>rfl,λ_ h=>by simp at h,ai.pR env,Y.pR σ,λ_ h=>by simp at h⟩
def gF(β:Nat→Value)(dD:List Nat):Nat→Value:=λd=>if d∈dD then .nilFunc else β d
theorem aU.beta{d:Nat}{o:cn}{p:Nat→Bool}(V:∀d,p d=false→β' d=β d)(Z:p d=false)(he:nw p o=false)
  (h:aU cx I β w d o):aU cx I β' w d o:=by
 cases o with
 |cells T cs=>
  simp only[aU,V d Z]at h ⊢;rcases h with h|⟨b,arr,h1,D,ak,bc⟩
  ·exact .inl h
  ·exact .inr ⟨b,arr,h1,D,CU V cs _ he ak,bc⟩
 |slice T sz xs k cU=>simpa only[aU,V d Z]using h
 |map K E bx=>simpa only[aU,V d Z]using h
 |win T sz xs=>simpa only[aU,V d Z]using h
 |k4 K E bx=>simpa only[aU,V d Z]using h
 |gj es clock K E bx=>simpa only[aU,V d Z]using h
 |iter cT pM kI seen=>simpa only[aU,V d Z,V cT he]using h
 |hdr cT n=>simpa only[aU,V d Z,V cT he]using h
 |cS cR=>simpa only[aU,V d Z]using h
 |gZ T xs t=>simpa only[aU,V d Z,V t he]using h
 |vec T xs=>simpa only[aU,V d Z]using h
 |ig es clock bx seen=>simpa only[aU,V d Z]using h
 |fV T e n dL=>
  simp only[nw,Bool.or_eq_false_iff]at he
  have cb:∀W as,i3 β' W as dL↔i3 β W as dL:=λW as=>by
   cases dL with
   |none=>exact Iff.rfl
   |some q=>obtain⟨i,t⟩:=q;cases i<;>simp only[i3,V t he.2]
  simpa only[aU,V d Z,V e he.1,cb]using h
 |iX K E e jr dL fx=>
  simp only[nw,Bool.or_eq_false_iff]at he
  have cb:∀W as,i3 β' W as dL↔i3 β W as dL:=λW as=>by
   cases dL with
   |none=>exact Iff.rfl
   |some q=>obtain⟨i,t⟩:=q;cases i<;>simp only[i3,V t he.2]
  simpa only[aU,V d Z,V e he.1,cb]using h
theorem bS.oS{σ2:Y}{dD:List Nat}{env:ai}(h:bS G cx I β σ w)(v:uX G σ dD σ2 env):
  bS G cx I (gF β dD) σ2 w:=by
 obtain⟨fO,hL,v3,v4,v5⟩:=v
 have V:∀d,dD.contains d=false→gF β dD d=β d:=λd Z=>by
  have:d∉dD:=by simpa using Z
  simp[gF,this]
 have aT:∀d,d∈dD→gF β dD d=.nilFunc:=λd Z=>by simp[gF,Z]
 refine{h with cB:=λd o e=>?_,dn:=λd eD e cw ct b=>?_,keep:=λd Z=>?_}
 ·by_cases hm:d∈dD
  ·cases o with
   |hdr cT n=>exact absurd e (v5 d hm cT n)
   |_=>simp only[aU];exact .inl (aT d hm)
  ·rw[fO d hm]at e;obtain⟨bk,bZ⟩:=Y.iu v4 d o e;exact(h.cB d o e).beta V bk bZ
 ·by_cases hm:d∈dD
  ·simp[aT d hm,KT]
  ·by_cases k1:eD∈dD
   ·simp[aT eD k1,KT]
   ·rw[fO d hm]at e;rw[fO eD k1]at cw;rw[V d (by simpa using hm),V eD (by simpa using k1)];exact h.dn d eD e cw ct b
 ·have:d∉dD:=λhm=>hL d hm Z;rw[V d (by simpa using this)];exact h.keep d Z
def iE(ops:Array Oper)(o:Oper)(env:ai):Prop:=
 match o.guard with
 |none=>True
 |some (j,want)=>∃dK gY,ops[j]?=some dK∧dK.dst=some gY∧env.get gY=.bool want
def k5(ops:Array Oper)(o:Oper)(env:ai):Prop:=
 match o.guard with
 |none=>False
 |some (j,want)=>∃dK gY,ops[j]?=some dK∧dK.dst=some gY∧(env.get gY=.bool (!want)∨env.get gY=.undef)
structure jT where
 e6:Bool
 T:List (List Nat)
 es:List Nat
def qf(s:jT)(e:Nat)(M:List Nat):List (Nat×List Nat)→Bool
 |[]=>true
 |(i,R)::r=>((s.T.getD e []).contains i||R.all (λd=>!M.contains d))&&qf s e M r
def e7(G:cq)(ops:Array Oper)(s:jT):List (Nat×List Nat)→List Nat→ai→Y→(ai→Y→Prop)→Prop
 |_,[],env,σ,K=>K env σ
 |log,i::l,env,σ,K=>∃o,ops[i]?=some o∧
   ((k5 ops o env∧(s.e6=true→i∉s.es)∧e7 G ops s ((i,[])::log) l (env.put o.dst .undef) σ K)∨
    (iE ops o env∧(s.e6=true→i∉s.es)∧∃dD R bE σ2,uX G σ dD σ2 env∧(∀d∈R,(σ2.get d).isSome)∧(∀d∈dD,d∈R)∧Yields G o env.ev σ2 dD R bE∧
     e7 G ops s ((i,R)::log) l (env.put o.dst bE) σ2 K)∨
    (iE ops o env∧(s.e6=true→i∈s.es)∧∃M news Φ,g8 G o env.ev σ M news Φ∧(s.e6=true→qf s i M log=true)∧env.clean news.contains=true∧(∀d∈news,d∉G.ids∧σ.get d=none)∧
     ∀bE az,Φ bE az→e7 G ops s log l (env.put o.dst bE) az K)∨
    (k5 ops o env∧(s.e6=true→i∈s.es)∧e7 G ops s log l (env.put o.dst .undef) σ K))
def kp(I:bw)(β:Nat→Value)(env:ai)(a:Act):Prop:=∀t,ar I β (env.get t) (a.tmps.getD t undef)
theorem kp.ev{I:bw}{β:Nat→Value}{env:ai}{a:Act}(h:kp I β env a)(x:Operand):ar I β (env.ev x) (a.eval x):=by
 cases x with
 |tmp t=>exact h t
 |const v=>exact L0 I β v
 |global g=>simp[ai.ev,ar]
 |func f=>simp[ai.ev,Act.eval,ar,bO]
theorem zS(a:Act)(d:Nat)(v:Value)(t:Nat)(Z:d<a.tmps.size):(a.put (some d) v).tmps.getD t undef=if d=t then v else a.tmps.getD t undef:=by
 simp only[Act.put];by_cases h:d=t
 ·subst h;simp[Array.getD_eq_getD_getElem?,Z]
 ·simp[h,Array.getD_eq_getD_getElem?,Array.getElem?_setIfInBounds_ne h]
end
section
def oT(G:cq)(cx:eO)(env:ai)(σ:Y)(a:Act)(w:World):Prop:=
 ∃I β,bS G cx I β σ w∧kp I β env a∧a.tmps.size=G.N∧a.defers=[]
theorem Uq{G:cq}{ops:Array Oper}{o:Oper}{env:ai}{a:Act}(W:a.tmps.size=G.N)(mV:∀(j:Nat) (dK:Oper) (d:Nat),ops[j]?=some dK→dK.dst=some d→d<G.N)
  (ax:∀(j:Nat) (want:Bool),o.guard=some (j,want)→∀(dK:Oper) (gY:Nat),ops[j]?=some dK→dK.dst=some gY→∀b,(env.get gY=.bool b→a.tmps.getD gY undef=.bool b)∧(env.get gY=.undef→a.tmps.getD gY undef=undef)) :
  (iE ops o env→Region.wanted o (yielded ops a.tmps)=true)∧(k5 ops o env→Region.wanted o (yielded ops a.tmps)=false):=by
 unfold iE k5 Region.wanted;cases bl:o.guard with
 |none=>exact⟨λ_=>rfl,λh=>h.elim⟩
 |some Ku=>
  obtain⟨j,want⟩:=Ku
  have key:∀(dK:Oper) (gY:Nat),ops[j]?=some dK→dK.dst=some gY→∀v,a.tmps.getD gY undef=v→yielded ops a.tmps j=(match v with|.bool b=>some b|_=>none):=by
   intro dK gY h1 D v af;have bQ:=mV j dK gY h1 D;have:a.tmps[gY]?=some v:=by
    rw[Array.getD_eq_getD_getElem?]at af;have ak:gY<a.tmps.size:=by omega
    rw[Array.getElem?_eq_getElem ak]at af ⊢;simpa using af
   unfold yielded;simp only[h1,Option.bind_some,D,this];cases v<;>rfl
  constructor
  ·rintro⟨dK,gY,h1,D,ak⟩;have:=(ax j want bl dK gY h1 D want).1 ak;simp only[key dK gY h1 D _ this];simp
  ·rintro⟨dK,gY,h1,D,ak⟩;rcases ak with ak|ak
   ·have:=(ax j want bl dK gY h1 D (!want)).1 ak;simp only[key dK gY h1 D _ this];cases want<;>rfl
   ·have:=(ax j want bl dK gY h1 D want).2 ak;simp only[key dK gY h1 D _ this];rfl
theorem kp.guard{I:bw}{β:Nat→Value}{env:ai}{a:Act}(h:kp I β env a)(d:Nat)(b:Bool):
  (env.get d=.bool b→a.tmps.getD d undef=.bool b)∧(env.get d=.undef→a.tmps.getD d undef=undef):=by
 have:=h d;constructor<;>intro e<;>rw[e]at this<;>simpa [ar,aO]using this
theorem kp.put{I:bw}{β:Nat→Value}{env:ai}{a:Act}{bE:U}{v:Value}(h:kp I β env a)(dst:Option Nat)(Z:∀d,dst=some d→d<a.tmps.size)(af:ar I β bE v):
  kp I β (env.put dst bE) (a.put dst v):=by
 cases dst with
 |none=>exact h
 |some d=>
  intro t;rw[zS a d v t (Z d rfl)];simp only[ai.put,ai.c4];split
  ·exact af
  ·exact h t
theorem wO(a:Act)(dst:Option Nat)(v:Value):(a.put dst v).tmps.size=a.tmps.size:=by
 cases dst<;>simp[Act.put]
theorem vV(a:Act)(dst:Option Nat)(v:Value):(a.put dst v).defers=a.defers:=by
 cases dst<;>simp[Act.put]
theorem kp.mono{I aS:bw}{β β':Nat→Value}{env:ai}{a:Act}(h:kp I β env a)(hi:b7 I aS)(V:g0 β β'):kp aS β' env a:=
 λt=>yc hi V _ _ (h t)
theorem kp.beta{I:bw}{β β':Nat→Value}{env:ai}{a:Act}{p:Nat→Bool}(h:kp I β env a)(V:∀d,p d=false→β' d=β d)(aa:env.clean p=true):kp I β' env a:=
 λt=>td V _ _ (ai.iu aa t) (h t)
theorem Gq(G:cq)(ops:Array Oper)(s:jT)(Q:Exit→Act→World→Prop)(mV:∀(j:Nat) (dK:Oper) (d:Nat),ops[j]?=some dK→dK.dst=some d→d<G.N)(K:ai→Y→Prop)(cx:eO)
  (fz:∀env σ a w,K env σ→oT G cx env σ a w→Q .normal a w) :
  ∀(l:List Nat) (log:List (Nat×List Nat)) (env:ai) (σ:Y) (a:Act) (w:World),e7 G ops s log l env σ K→oT G cx env σ a w→wpOps G.P ops Q l a w
 |[],log,env,σ,a,w,h,ax=>fz _ _ _ _ h ax
 |i::l,log,env,σ,a,w,h,ax=>by
  obtain⟨o,aj,h⟩:=h;have w2:∀d,o.dst=some d→d<a.tmps.size:=λd Z=>by obtain⟨_,_,_,_,ak,_⟩:=ax;rw[ak];exact mV i o d aj Z
  simp only[wpOps,aj];obtain⟨I,β,aq,bB,W,xN⟩:=ax;have HQ:=Uq (o:=o) (env:=env) W mV (λj want _ dK gY _ _ b=>bB.guard gY b)
  have skip:∀log,k5 ops o env→e7 G ops s log l (env.put o.dst .undef) σ K→
    if Region.wanted o (yielded ops a.tmps)=true then o.wp G.P a w (wpOps G.P ops Q l) Q∨o.asks G.P a w∧LetsOut Q else wpOps G.P ops Q l (a.put o.dst undef) w:=by
   intro log J8 h;rw[HQ.2 J8];simp only[Bool.false_eq_true,if_false];exact Gq G ops s Q mV K cx fz l _ _ _ _ _ h ⟨I,β,aq,bB.put _ w2 (by simp[ar,aO]),by rw[wO];exact W,by rw[vV];exact xN⟩
  rcases h with⟨h1,_,D⟩|⟨h1,_,dD,R,bE,σ2,af,b2,mU,ha,D⟩|⟨h1,_,M,news,Φ,g1,_,aa,qS,D⟩|⟨h1,_,D⟩
  ·exact skip _ h1 D
  ·rw[HQ.1 h1];simp only[if_true];refine .inl (kM.wp (Φ:=λv w'=>∃aS β',ar aS β' bE v∧bS G cx aS β' σ2 w'∧b7 I aS∧(∀d,d∉dD→β' d=gF β dD d)) ?_ ?_)
   ·have lE:=aq.oS af
    have V:∀d,dD.contains d=false→gF β dD d=β d:=λd Z=>by
     have:d∉dD:=by simpa using Z
     simp[gF,this]
    exact ha σ2 cx I (gF β dD) w a.eval (λ_ _=>rfl) lE (λd Z=>by simp[gF,Z]) (λx _=>(bB.beta V af.2.2.1).ev x)
   ·rintro v w' ⟨aS,β',pV,eS,hle,pW⟩
    have V:∀d,dD.contains d=false→gF β dD d=β d:=λd Z=>by
     have:d∉dD:=by simpa using Z
     simp[gF,this]
    have cb:g0 (gF β dD) β':=λd=>by
     by_cases hm:d∈dD
     ·left;simp[gF,hm]
     ·right;exact pW d hm
    exact Gq G ops s Q mV K cx fz l _ _ _ _ _ D ⟨aS,β',eS,((bB.beta V af.2.2.1).mono hle cb).put _ w2 pV,by rw[wO];exact W,by rw[vV];exact xN⟩
  ·rw[HQ.1 h1];simp only[if_true];refine .inl (kM.wp (g1 cx I β w a.eval aq (λx _=>bB.ev x)) ?_);rintro v w' ⟨bE,az,aS,β',Cm,pV,eS,hle,pW,_⟩;have ahL:kp aS β' env a:=(bB.beta (p:=news.contains) (λd Z=>pW d (by simpa using Z)) aa).mono hle (g0.refl _);exact Gq G ops s Q mV K cx fz l _ _ _ _ _ (D bE az Cm) ⟨aS,β',eS,ahL.put _ w2 pV,by rw[wO];exact W,by rw[vV];exact xN⟩
  ·exact skip _ h1 D
def uO(N:Nat)(ops:Array Oper):Bool:=ops.toList.all λo=>match o.dst with|some d=>Nat.blt d N|none=>true
theorem Ue{N:Nat}{ops:Array Oper}(h:uO N ops=true):∀(j:Nat) (dK:Oper) (d:Nat),ops[j]?=some dK→dK.dst=some d→d<N:=by
 intro j dK d aM Z;have hm:dK∈ops.toList:=by simpa using Array.mem_of_getElem? aM
 have:=List.all_eq_true.1 h dK hm;simp only[Z]at this;exact(Iff.of_eq Nat.blt_eq).1 this
def mu(ops:Array Oper)(o:Oper)(t:Nat):Bool:=(o.looksAt ops).contains t
def Hh(s:jT)(i j:Nat)(gL dK:Oper)(ops:Array Oper):Bool:=
 match gL.dst with
 |none=>true
 |some t=>
  (i==j&&(s.es.contains i||!mu ops dK t)) ||
  (!(i==j)&&(!(mu ops dK t)||(s.T.getD j []).contains i||(s.es.contains i&&(s.T.getD i []).contains j)) &&
   (!(dK.dst==some t)||(s.es.contains i&&s.es.contains j&&((s.T.getD j []).contains i||(s.T.getD i []).contains j))))
def us(s:jT):List Nat→Bool
 |[]=>true
 |i::l=>l.all (λj=>!(s.T.getD i []).contains j&&!(i==j)&&(!s.es.contains i||(s.T.getD j []).contains i))&&us s l
def HR(ops:Array Oper)(T:List (List Nat)):Bool:=
 (List.range ops.size).all λj=>match ops[j]? with
  |none=>false
  |some dK=>dK.after.toList.all (λe=>!Region.binds .any e||Nat.blt e.on j) &&
    (T.getD j []).all λi=>dK.after.toList.any λe=>Region.binds .any e&&(e.on==i||(T.getD e.on []).contains i)
def DD(N:Nat)(ops:Array Oper)(s:jT)(l:List Nat):Bool:=
 uO N ops&&HR ops s.T&&us s l&&(List.range ops.size).all (λi=>l.contains i)&&l.all (λi=>Nat.blt i ops.size)&&(s.T.length==ops.size) &&
 (List.range ops.size).all λi=>(List.range ops.size).all λj=>match ops[i]?,ops[j]? with
  |some gL,some dK=>Hh s i j gL dK ops
  |_,_=>true
section any
variable {G:cq}{ops:Array Oper}{s:jT}
structure Stat(G:cq)(ops:Array Oper)(s:jT):Prop where
 dst:∀(j:Nat) (dK:Oper) (d:Nat),ops[j]?=some dK→dK.dst=some d→d<G.N
 down:∀(j:Nat) (dK:Oper),ops[j]?=some dK→∀e∈dK.after,Region.binds .any e=true→e.on<j
 tab:∀(j:Nat) (dK:Oper),ops[j]?=some dK→∀i∈s.T.getD j [],∃e∈dK.after,Region.binds .any e=true∧(e.on=i∨i∈s.T.getD e.on [])
 size:s.T.length=ops.size
 read:∀(i j:Nat) (gL dK:Oper) (t:Nat),ops[i]?=some gL→ops[j]?=some dK→gL.dst=some t→i≠j→mu ops dK t=true→i∈s.T.getD j []∨(i∈s.es∧j∈s.T.getD i [])
 self:∀(j:Nat) (dK:Oper) (t:Nat),ops[j]?=some dK→dK.dst=some t→j∉s.es→mu ops dK t=false
 one:∀(i j:Nat) (gL dK:Oper) (t:Nat),ops[i]?=some gL→ops[j]?=some dK→gL.dst=some t→dK.dst=some t→i≠j→i∈s.es∧j∈s.es
theorem Stat.of{l:List Nat}(h:DD G.N ops s l=true):Stat G ops s∧us s l=true∧(∀i,i<ops.size↔i∈l):=by
 simp only[DD,Bool.and_eq_true,List.all_eq_true,List.mem_range,beq_iff_eq]at h;obtain⟨⟨⟨⟨⟨⟨h1,D⟩,ak⟩,bc⟩,bX⟩,dV⟩,fF⟩:=h;refine⟨{dst:=Ue h1,down:=?_,tab:=?_,size:=dV,read:=?_,self:=?_,one:=?_},ak,λi=>⟨λhi=>by simpa using bc i hi,λhi=>(Iff.of_eq Nat.blt_eq).1 (bX i hi)⟩⟩
 ·intro j dK aM e he V;have r2:j<ops.size:=(Array.getElem?_eq_some_iff.1 aM).1;simp only[HR,List.all_eq_true,List.mem_range]at D;have:=D j r2;simp only[aM,Bool.and_eq_true,List.all_eq_true]at this;have:=this.1 e (by simpa using he);simp only[V,Bool.not_true,Bool.false_or]at this;exact(Iff.of_eq Nat.blt_eq).1 this
 ·intro j dK aM i hi;have r2:j<ops.size:=(Array.getElem?_eq_some_iff.1 aM).1;simp only[HR,List.all_eq_true,List.mem_range]at D;have:=D j r2;simp only[aM,Bool.and_eq_true,List.all_eq_true]at this;have:=this.2 i hi;simp only[List.any_eq_true,Bool.and_eq_true,Bool.or_eq_true,beq_iff_eq]at this;obtain⟨e,he,V,cb⟩:=this;exact⟨e,by simpa using he,V,by simpa using cb⟩
 ·intro i j gL dK t hi aM Z ct aJ;have:=fF i (Array.getElem?_eq_some_iff.1 hi).1 j (Array.getElem?_eq_some_iff.1 aM).1;have V:(i==j)=false:=by simpa using ct
  simp only[hi,aM,Hh,Z,V,aJ,Bool.not_true,Bool.not_false,Bool.true_and,Bool.false_and,Bool.false_or,Bool.or_eq_true,Bool.and_eq_true,false_or]at this;have:=this.1;simpa using this
 ·intro j dK t aM Z i5;have:=fF j (Array.getElem?_eq_some_iff.1 aM).1 j (Array.getElem?_eq_some_iff.1 aM).1;simp only[aM,Hh,Z,BEq.rfl,Bool.true_and,Bool.not_true,Bool.false_and,Bool.or_false,Bool.or_eq_true,List.contains_iff_mem,i5,false_or,Bool.not_eq_true']at this;exact this
 ·intro i j gL dK t hi aM Z dw ct;have:=fF i (Array.getElem?_eq_some_iff.1 hi).1 j (Array.getElem?_eq_some_iff.1 aM).1;have V:(i==j)=false:=by simpa using ct
  simp only[hi,aM,Hh,Z,dw,V,Bool.not_false,Bool.true_and,Bool.false_and,Bool.false_or,Bool.or_eq_true,Bool.and_eq_true,false_or,BEq.rfl,Bool.not_true,Bool.false_eq_true]at this;have:=this.2;simp only[List.contains_iff_mem]at this;exact⟨this.1.1,this.1.2⟩
def DU(G:cq)(ops:Array Oper)(s:jT)(env:ai)(σ:Y)(β:Nat→Value)(log:List (Nat×List Nat))(i:Nat)(dD:List Nat):Prop:=
 ∃o bE,ops[i]?=some o∧i∉s.es∧(∀t,o.dst=some t→env.get t=bE)∧
  ((k5 ops o env∧bE=.undef∧dD=[])∨
   (iE ops o env∧∃R,Yields G o env.ev σ dD R bE∧(i,R)∈log∧(∀d∈R,(σ.get d).isSome)∧(∀d∈dD,d∈R∧β d=.nilFunc∧d∉G.ids)))
def sA(I:bw)(β:Nat→Value)(ops:Array Oper)(fW:List Nat)(env:ai)(a:Act):Prop:=
 ∀t,(∀i∈fW,∀o,ops[i]?=some o→o.dst≠some t)→ar I β (env.get t) (a.tmps.getD t undef)
theorem x5{dG:Array Bool}{j:Nat}:j∈Region.ready .any ops dG↔
  dG.getD j true=false∧∃o,ops[j]?=some o∧∀e∈o.after,Region.binds .any e=true→dG.getD e.on false=true:=mem_ready
theorem NM{dG:Array Bool}{i:Nat}(hi:i<dG.size)(b c:Bool):dG.getD i b=dG.getD i c:=by
 simp[Array.getD_eq_getD_getElem?,hi]
theorem FD(eY:Stat G ops s){dG:Array Bool}(jH:dG.size=ops.size)
  (hJ:∀j,dG.getD j false=true→∀i∈s.T.getD j [],dG.getD i false=true) {j:Nat} (aM:j∈Region.ready .any ops dG) :
  ∀i∈s.T.getD j [],dG.getD i false=true:=by
 obtain⟨_,o,aj,me⟩:=x5.1 aM;intro i hi;obtain⟨e,he,V,h⟩:=eY.tab j o aj i hi;rcases h with h|h
 ·rw[←h];exact me e he V
 ·exact hJ e.on (me e he V) i h
theorem alw(eY:Stat G ops s){dG:Array Bool}(jH:dG.size=ops.size):∀(n j:Nat),j≤n→j<ops.size→dG.getD j true=false→Region.ready .any ops dG≠[]:=by
 intro n;induction n with
 |zero=>
  intro j aM bQ s8
  have:j∈Region.ready .any ops dG:=x5.2 ⟨s8,ops[j],Array.getElem?_eq_getElem bQ,λe he V=>by
   have:=eY.down j _ (Array.getElem?_eq_getElem bQ) e he V;omega⟩
  exact List.ne_nil_of_mem this
 |succ n bD=>
  intro j aM bQ s8;by_cases B0:∃i,i<j∧dG.getD i true=false
  ·obtain⟨i,h1,D⟩:=B0;exact bD i (by omega) (by omega) D
  ·have:j∈Region.ready .any ops dG:=x5.2 ⟨s8,ops[j],Array.getElem?_eq_getElem bQ,λe he V=>by
    have Z:=eY.down j _ (Array.getElem?_eq_getElem bQ) e he V;have:¬dG.getD e.on true=false:=λcb=>B0 ⟨e.on,Z,cb⟩;rw[NM (by omega) false true];simpa using this⟩
   exact List.ne_nil_of_mem this
theorem ai.Ur{env:ai}{dst:Option Nat}{bE:U}{x:Operand}(h:∀t,dst=some t→x≠.tmp t):(env.put dst bE).ev x=env.ev x:=by
 cases dst with
 |none=>rfl
 |some d=>
  cases x with
  |tmp t=>simp only[ai.put,ai.ev,ai.c4];rw[if_neg (λe=>h d rfl (by rw[e]))]
  |_=>rfl
theorem ai.F4{env:ai}{dst:Option Nat}{bE:U}{t:Nat}(h:dst≠some t):(env.put dst bE).get t=env.get t:=by
 cases dst with
 |none=>rfl
 |some d=>simp only[ai.put,ai.c4];rw[if_neg (λe=>h (by rw[e]))]
theorem L1{o:Oper}{t:Nat}(h:(Operand.tmp t)∈o.op.operands):mu ops o t=true:=by
 simp only[mu,List.contains_iff_mem,Oper.looksAt];exact List.mem_append_left _ (List.mem_filterMap.2 ⟨.tmp t,by simpa using h,rfl⟩)
theorem TD{o dK:Oper}{j:Nat}{want:Bool}{t:Nat}(bl:o.guard=some (j,want))(aM:ops[j]?=some dK)(bB:dK.dst=some t):mu ops o t=true:=by
 simp[mu,Oper.looksAt,bl,aM,bB]
theorem Yields.ev{o:Oper}{ev RL:Operand→U}{σ:Y}{dD R:List Nat}{bE:U}(h:∀x∈o.op.operands,RL x=ev x)(ah:Yields G o ev σ dD R bE):Yields G o RL σ dD R bE:=
 λaz cx I β w aP h1 D ak bc=>ah az cx I β w aP h1 D ak (λx u=>by rw[←h x u];exact bc x u)
theorem Yields.ajt{o:Oper}{ev:Operand→U}{σ σ2:Y}{dD R:List Nat}{bE:U}(h:∀d∈R,σ2.get d=σ.get d)(ah:Yields G o ev σ dD R bE):Yields G o ev σ2 dD R bE:=
 λaz cx I β w aP h1 D ak bc=>ah az cx I β w aP (λd Z=>(h1 d Z).trans (h d Z)) D ak bc
theorem iE.put{o:Oper}{env:ai}{dst:Option Nat}{bE:U}(h:∀t,dst=some t→mu ops o t=false):(iE ops o env→iE ops o (env.put dst bE))∧(k5 ops o env→k5 ops o (env.put dst bE)):=by
 unfold iE k5;cases bl:o.guard with
 |none=>exact⟨id,id⟩
 |some Ku=>
  obtain⟨j,want⟩:=Ku;constructor<;>(rintro⟨dK,gY,h1,D,ak⟩;refine⟨dK,gY,h1,D,?_⟩;rw[ai.F4 (λe=>by have:=h gY e;rw[TD bl h1 D]at this;cases this)];exact ak)
theorem DU.put{env:ai}{σ σ2:Y}{β eZ:Nat→Value}{log SX:List (Nat×List Nat)}{i:Nat}{dD:List Nat}{dst:Option Nat}{bE:U}(h:DU G ops s env σ β log i dD)
  (Z:∀o,ops[i]?=some o→∀t,dst=some t→mu ops o t=false∧o.dst≠some t)
  (w3:∀x∈log,x∈SX) (b2:∀R,(i,R)∈log→∀d∈R,(σ.get d).isSome→σ2.get d=σ.get d) (hm:∀d∈dD,(σ.get d).isSome→β d=.nilFunc→eZ d=.nilFunc) :
  DU G ops s (env.put dst bE) σ2 eZ SX i dD:=by
 obtain⟨o,aeZ,aj,i5,pV,h⟩:=h;refine⟨o,aeZ,aj,i5,λt bB=>?_,?_⟩
 ·rw[ai.F4 (λe=>(Z o aj t e).2 bB)];exact pV t bB
 ·have aJ:∀t,dst=some t→mu ops o t=false:=λt e=>(Z o aj t e).1;rcases h with⟨h1,D⟩|⟨h1,R,ha,xS,zi,zv⟩
  ·exact .inl ⟨(iE.put aJ).2 h1,D⟩
  ·refine .inr ⟨(iE.put aJ).1 h1,R,?_,w3 _ xS,λd dw=>?_,λd dw=>?_⟩
   ·refine(ha.ev λx u=>?_).ajt (λd dw=>b2 R xS d dw (zi d dw));exact ai.Ur λt e Cj=>by have:=aJ t e;rw[L1 (Cj▸u)]at this;cases this
   ·rw[b2 R xS d dw (zi d dw)];exact zi d dw
   ·obtain⟨an,au,aK⟩:=zv d dw;exact⟨an,hm d dw (zi d an) au,aK⟩
theorem sA.ev{I:bw}{β:Nat→Value}{fW:List Nat}{env:ai}{a:Act}(h:sA I β ops fW env a){o:Oper}
  (aB:∀i∈fW,∀gL,ops[i]?=some gL→∀t,gL.dst=some t→mu ops o t=false):∀x∈o.op.operands,ar I β (env.ev x) (a.eval x):=by
 intro x u;cases x with
 |tmp t=>
  refine h t λi hi gL p3 Z=>?_;have:=aB i hi gL p3 t Z;rw[L1 u]at this;cases this
 |const v=>exact L0 I β v
 |global g=>simp[ai.ev,ar]
 |func f=>simp[ai.ev,Act.eval,ar,bO]
theorem sA.want{I:bw}{β:Nat→Value}{fW:List Nat}{env:ai}{a:Act}(eY:Stat G ops s)(W:a.tmps.size=G.N)(h:sA I β ops fW env a){o:Oper}
  (aB:∀i∈fW,∀gL,ops[i]?=some gL→∀t,gL.dst=some t→mu ops o t=false) :
  (iE ops o env→Region.wanted o (yielded ops a.tmps)=true)∧(k5 ops o env→Region.wanted o (yielded ops a.tmps)=false):=by
 refine Uq W eY.dst λj want bl dK gY h1 D b=>?_
 have:=h gY λi hi gL p3 Z=>by
  have:=aB i hi gL p3 gY Z;rw[TD bl h1 D]at this;cases this
 constructor<;>intro e<;>rw[e]at this<;>simpa [ar,aO]using this
theorem sA.mono{I aS:bw}{β β':Nat→Value}{fW:List Nat}{env:ai}{a:Act}(h:sA I β ops fW env a)(hi:b7 I aS)(V:g0 β β'):sA aS β' ops fW env a:=
 λt bB=>yc hi V _ _ (h t bB)
theorem sA.beta{I:bw}{β β':Nat→Value}{p:Nat→Bool}{fW:List Nat}{env:ai}{a:Act}(h:sA I β ops fW env a)(V:∀d,p d=false→β' d=β d)(aa:env.clean p=true):sA I β' ops fW env a:=
 λt bB=>td V _ _ (ai.iu aa t) (h t bB)
theorem Uf{e:Nat}{M:List Nat}:∀{log:List (Nat×List Nat)},qf s e M log=true→∀i R,(i,R)∈log→i∈s.T.getD e []∨∀d∈R,d∉M
 |[],_,_,_,hm=>by simp at hm
 |(k,S)::r,h,i,R,hm=>by
  simp only[qf,Bool.and_eq_true,Bool.or_eq_true,List.contains_iff_mem,List.all_eq_true]at h;rcases List.mem_cons.1 hm with e|hm
  ·cases e;rcases h.1 with h1|h1
   ·exact .inl h1
   ·exact .inr λd Z=>by have:=h1 d Z;simpa using this
  ·exact Uf h.2 i R hm
structure Inv(G:cq)(ops:Array Oper)(s:jT)(cx:eO)(m:Nat→List Nat)(l fW:List Nat)(dG:Array Bool)(log:List (Nat×List Nat))(env:ai)(σ:Y)(a:Act)(w:World)(I:bw)(β:Nat→Value):Prop where
 om:dG.size=ops.size
 ord:us s l=true
 ru:∀i,i<ops.size→(dG.getD i true=false↔i∈fW∨i∈l)
 sW:∀i∈fW,i∉l
 nd:fW.Nodup
 pw:∀i∈fW,∀j∈l,j∉s.T.getD i []
 ps:∀i∈fW,i<ops.size
 ls:∀i∈l,i<ops.size
 cl:∀j,dG.getD j false=true→∀i∈s.T.getD j [],dG.getD i false=true
 qw:∀i∈fW,DU G ops s env σ β log i (m i)
 md:∀i∈fW,∀j∈fW,i≠j→∀d∈m i,d∉m j
 rw:bS G cx I β σ w
 rp:sA I β ops fW env a
 sz:a.tmps.size=G.N
 df:a.defers=[]
theorem L2(dG:Array Bool)(i j:Nat)(b:Bool)(hi:i<dG.size):(dG.setIfInBounds i true).getD j b=if i=j then true else dG.getD j b:=by
 by_cases h:i=j
 ·subst h;simp[Array.getD_eq_getD_getElem?,hi]
 ·simp[h,Array.getD_eq_getD_getElem?,Array.getElem?_setIfInBounds_ne h]
section inv
variable {cx:eO}{m:Nat→List Nat}{l fW:List Nat}{dG:Array Bool}{log:List (Nat×List Nat)}{env:ai}{σ:Y}{a:Act}{w:World}{I:bw}{β:Nat→Value}
theorem Inv.L3(inv:Inv G ops s cx m l fW dG log env σ a w I β){i:Nat}(h:i∈fW∨i∈l):dG.getD i false=false:=by
 have hi:i<ops.size:=by rcases h with h|h<;>first|exact inv.ps i h|exact inv.ls i h
 rw[NM (by rw[inv.om];exact hi) false true];exact(inv.ru i hi).2 h
theorem Inv.OE(eY:Stat G ops s)(inv:Inv G ops s cx m l fW dG log env σ a w I β){j:Nat}(aM:j∈Region.ready .any ops dG):
  ∀k,(dG.setIfInBounds j true).getD k false=true→∀i∈s.T.getD k [],(dG.setIfInBounds j true).getD i false=true:=by
 obtain⟨_,o,aj,_⟩:=x5.1 aM;have r2:j<dG.size:=by rw[inv.om];exact(Array.getElem?_eq_some_iff.1 aj).1
 intro k hk i hi;rw[L2 _ _ _ _ r2]at hk ⊢;split
 ·rfl
 ·split at hk
  ·rename_i h;subst h;exact FD eY inv.om inv.cl aM i hi
  ·exact inv.cl k hk i hi
theorem Inv.Lg(eY:Stat G ops s)(inv:Inv G ops s cx m l fW dG log env σ a w I β){j:Nat}{o:Oper}(aM:j∈Region.ready .any ops dG)(aj:ops[j]?=some o)(DE:j∈fW→j∉s.es):
  ∀i∈fW,∀gL,ops[i]?=some gL→∀t,gL.dst=some t→mu ops o t=false:=by
 intro i hi gL p3 t bB;rcases Bool.eq_false_or_eq_true (mu ops o t)with aJ|aJ
 ·exfalso;by_cases g2:i=j
  ·subst g2;have jG:some gL=some o:=p3.symm.trans aj;cases jG;have:=eY.self i o t p3 bB (DE hi);rw[this]at aJ;cases aJ
  ·rcases eY.read i j gL o t p3 aj bB g2 aJ with h|⟨h,_⟩
   ·have:=FD eY inv.om inv.cl aM i h;rw[inv.L3 (.inl hi)]at this;cases this
   ·obtain⟨_,_,_,i5,_⟩:=inv.qw i hi;exact i5 h
 ·exact aJ
theorem Inv.UD(eY:Stat G ops s)(inv:Inv G ops s cx m l fW dG log env σ a w I β){Q:Exit→Act→World→Prop}{K:Act→World→Prop}{j:Nat}(aM:j∈Region.ready .any ops dG)(n0:j∈fW)
    (k:∀e8 w' aS β',Inv G ops s cx m l (fW.erase j) (dG.setIfInBounds j true) log env σ e8 w' aS β'→K e8 w'):wpOp G.P ops Q j K a w:=by
  obtain⟨o,bE,aj,i5,pV,h⟩:=inv.qw j n0;have r2:j<dG.size:=by rw[inv.om];exact inv.ps j n0
  have uk:=inv.Lg eY aM aj (λ_=>i5);have aq:=inv.rp.want eY inv.sz uk;have w2:∀d,o.dst=some d→d<a.tmps.size:=λd Z=>by rw[inv.sz];exact eY.dst j o d aj Z
  have next:∀v w' aS β',ar aS β' bE v→bS G cx aS β' σ w'→b7 I aS→(∀d,d∉m j→β' d=β d)→(∀d∈m j,β d=.nilFunc∨β' d=β d)→Inv G ops s cx m l (fW.erase j) (dG.setIfInBounds j true) log env σ (a.put o.dst v) w' aS β':=by
    intro v w' aS β' jg eS hle V fG
    have cb:g0 β β':=λd=>by
      by_cases Z:d∈m j
      · exact fG d Z
      · exact .inr (V d Z)
    refine{om:=by simp[inv.om],ord:=inv.ord,ru:=λi hi=>?_,sW:=λi hi=>inv.sW i (List.mem_of_mem_erase hi),nd:=inv.nd.erase j,
           pw:=λi hi=>inv.pw i (List.mem_of_mem_erase hi),ps:=λi hi=>inv.ps i (List.mem_of_mem_erase hi),ls:=inv.ls,cl:=inv.OE eY aM,qw:=λi hi=>?_,
           md:=λi hi k hk=>inv.md i (List.mem_of_mem_erase hi) k (List.mem_of_mem_erase hk),rw:=eS,rp:=λt bB=>?_,sz:=by rw[wO];exact inv.sz,df:=by rw[vV];exact inv.df}
    · rw[L2 _ _ _ _ r2]
      by_cases g2:j=i
      · subst g2
        simp only[if_true,Bool.true_eq_false,false_iff,not_or];exact⟨λh=>(List.Nodup.mem_erase_iff inv.nd).1 h|>.1 rfl,inv.sW j n0⟩
      · rw[if_neg g2,inv.ru i hi,List.Nodup.mem_erase_iff inv.nd]
        constructor
        · rintro(h|h)
          · exact .inl ⟨λe=>g2 e.symm,h⟩
          · exact .inr h
        · rintro(h|h)
          · exact .inl h.2
          · exact .inr h
    · have mY:=List.mem_of_mem_erase hi
      have g2:i≠j:=λe=>((List.Nodup.mem_erase_iff inv.nd).1 hi).1 e;obtain⟨gL,ae0,an,au,aK,aG⟩:=inv.qw i mY;refine⟨gL,ae0,an,au,aK,?_⟩;rcases aG with aG|⟨aG,R,bb,bC,bY,cK⟩
      · exact .inl aG
      · refine .inr ⟨aG,R,bb,bC,bY,λd Z=>⟨(cK d Z).1,?_,(cK d Z).2.2⟩⟩
        rw[V d (inv.md i mY j n0 g2 d Z)];exact(cK d Z).2.1
    · by_cases aZ:o.dst=some t
      · rw[aZ,zS a t v t (by rw[inv.sz];exact eY.dst j o t aj aZ),if_pos rfl,pV t aZ]
        exact jg
      · have:(a.put o.dst v).tmps.getD t undef=a.tmps.getD t undef:=by
          cases Z:o.dst with
          |none=>rfl
          |some d=>rw[zS a d v t (w2 d Z),if_neg (λe=>aZ (by rw[Z,e]))]
        rw[this];refine yc hle cb _ _ (inv.rp t λi hi gL p3=>?_);by_cases g2:i=j
        · subst g2
          rw[aj]at p3;cases p3;exact aZ
        · exact bB i ((List.Nodup.mem_erase_iff inv.nd).2 ⟨g2,hi⟩) gL p3
  unfold wpOp;simp only[aj];rcases h with⟨h1,D⟩|⟨h1,R,ha,w3,zi,zv⟩
  · rw[aq.2 h1]
    simp only[Bool.false_eq_true,if_false];exact k _ _ _ _ (next undef w I β (by rw[D.1];simp[ar,aO]) inv.rw (b7.refl I) (λ_ _=>rfl) (λ_ _=>.inr rfl))
  · rw[aq.1 h1]
    simp only[if_true];refine .inl (kM.wp (ha σ cx I β w a.eval (λ_ _=>rfl) inv.rw (λd Z=>(zv d Z).2.1) (inv.rp.ev uk)) ?_);rintro v w' ⟨aS,β',jg,eS,hle,V⟩;exact k _ _ _ _ (next v w' aS β' jg eS hle V (λd Z=>.inl (zv d Z).2.1))
theorem Inv.oS(eY:Stat G ops s){i:Nat}(inv:Inv G ops s cx m (i::l) fW dG log env σ a w I β){o:Oper}(aj:ops[i]?=some o)(i5:i∉s.es){dD R:List Nat}{bE:U}{σ2:Y}
    (af:uX G σ dD σ2 env) (aB:(k5 ops o env∧bE=.undef∧dD=[])∨(iE ops o env∧Yields G o env.ev σ2 dD R bE∧(∀d∈R,(σ2.get d).isSome)∧(∀d∈dD,d∈R))) :
    Inv G ops s cx (λk=>if k=i then dD else m k) l (i::fW) dG ((i,R)::log) (env.put o.dst bE) σ2 a w I (gF β dD):=by
  have mY:i∉fW:=λh=>inv.sW i h (by simp);have px:=inv.ord;simp only[us,Bool.and_eq_true,List.all_eq_true,Bool.not_eq_true',List.contains_eq_mem,decide_eq_false_iff_not,beq_eq_false_iff_ne]at px
  have V:∀d,dD.contains d=false→gF β dD d=β d:=λd Z=>by
    have:d∉dD:=by simpa using Z
    simp[gF,this]
  have Af:∀d,(σ.get d).isSome→d∉dD:=λd Z hm=>by
    obtain⟨x,u⟩:=Option.isSome_iff_exists.1 Z;have:=(Y.iu af.2.2.2.1 d x u).1;simp[hm]at this
  have k1:∀p∈fW,(if p=i then dD else m p)=m p:=λp aB=>by
    have:p≠i:=λe=>by subst e;exact mY aB
    rw[if_neg this]
  refine{om:=inv.om,ord:=px.2,ru:=λk hk=>?_,sW:=λk hk aJ=>?_,nd:=List.nodup_cons.2 ⟨mY,inv.nd⟩,pw:=λk hk j aM=>?_,ps:=λk hk=>?_,ls:=λk hk=>inv.ls k (by simp[hk]),
         cl:=inv.cl,qw:=λk hk=>?_,md:=λk hk j aM ct d Z=>?_,rw:=inv.rw.oS af,rp:=λt bB=>?_,sz:=inv.sz,df:=inv.df}
  · rw[inv.ru k hk];simp only[List.mem_cons]
    constructor
    · rintro(h|h|h)
      · exact .inl (.inr h)
      · exact .inl (.inl h)
      · exact .inr h
    · rintro((h|h)|h)
      · exact .inr (.inl h)
      · exact .inl h
      · exact .inr (.inr h)
  · rcases List.mem_cons.1 hk with rfl|hk
    · exact(px.1 k aJ).1.2 rfl
    · exact inv.sW k hk (by simp[aJ])
  · rcases List.mem_cons.1 hk with rfl|hk
    · exact(px.1 j aM).1.1
    · exact inv.pw k hk j (by simp[aM])
  · rcases List.mem_cons.1 hk with rfl|hk
    · exact inv.ls k (by simp)
    · exact inv.ps k hk
  · rcases List.mem_cons.1 hk with rfl|hk
    · have DE:∀t,o.dst=some t→mu ops o t=false:=λt bB=>eY.self k o t aj bB i5
      refine⟨o,bE,aj,i5,λt bB=>by simp[bB,ai.put,ai.c4],?_⟩;simp only[if_true];rcases aB with⟨h1,D⟩|⟨h1,ha,b2,mU⟩
      · exact .inl ⟨(iE.put DE).2 h1,D⟩
      · refine .inr ⟨(iE.put DE).1 h1,R,ha.ev (λx u=>ai.Ur λt e Cj=>?_),by simp,b2,λd Z=>⟨mU d Z,by simp[gF,Z],af.2.1 d Z⟩⟩
        have:=DE t e;rw[L1 (Cj▸u)]at this;cases this
    · rw[k1 k hk]
      refine(inv.qw k hk).put (λok iP t bB=>?_) (λx u=>by simp[u]) (λamo anz d Z W=>af.1 d (Af d W)) (λd Z W aT=>by rw[V d (by simpa using Af d W)];exact aT);have o9:i≠k:=λe=>mY (e▸hk);constructor
      · rcases Bool.eq_false_or_eq_true (mu ops ok t)with aJ|aJ
        · rcases eY.read i k o ok t aj iP bB o9 aJ with h|⟨h,_⟩
          · exact absurd h (inv.pw k hk i (by simp))
          · exact absurd h i5
        · exact aJ
      · exact λe=>i5 (eY.one i k o ok t aj iP bB e o9).1
  · have key:∀p∈fW,∀d∈m p,d∉dD:=λp aB d Z=>by
      obtain⟨_,_,_,_,_,q⟩:=inv.qw p aB;rcases q with q|⟨_,_,_,_,uQ,q⟩
      · rw[q.2.2]at Z;simp at Z
      · exact Af d (uQ d (q d Z).1)
    rcases List.mem_cons.1 hk with b4|p0
    · subst b4
      rcases List.mem_cons.1 aM with Jq|jo
      · exact absurd Jq.symm ct
      · simp only[if_true]at Z
        rw[k1 j jo];exact λh=>key j jo d h Z
    · rw[k1 k p0]at Z
      rcases List.mem_cons.1 aM with Jq|jo
      · subst Jq
        simp only[if_true];exact key k p0 d Z
      · rw[k1 j jo]
        exact inv.md k p0 j jo ct d Z
  · have aZ:o.dst≠some t:=bB i (by simp) o aj
    rw[ai.F4 aZ];exact td V _ _ (ai.iu af.2.2.1 t) (inv.rp t λk hk=>bB k (by simp[hk]))
theorem Inv.y3(eY:Stat G ops s){i:Nat}(inv:Inv G ops s cx m (i::l) fW dG log env σ a w I β){o:Oper}(aj:ops[i]?=some o)(i5:i∈s.es)(ax:i∈Region.ready .any ops dG){M news:List Nat}{bE:U}{az:Y}
    (w3:qf s i M log=true) (aa:env.clean news.contains=true) (qS:∀d∈news,d∉G.ids∧σ.get d=none) {v:Value} {w':World} {aS:bw} {β':Nat→Value}
    (jg:ar aS β' bE v) (eS:bS G cx aS β' az w') (hle:b7 I aS) (V:∀d,d∉news→β' d=β d) (mU:∀d,d∉M→az.get d=σ.get d) :
    Inv G ops s cx m l fW (dG.setIfInBounds i true) log (env.put o.dst bE) az (a.put o.dst v) w' aS β':=by
  have mY:i∉fW:=λh=>inv.sW i h (by simp);have ag4:i<dG.size:=by rw[inv.om];exact inv.ls i (by simp)
  have px:=inv.ord;simp only[us,Bool.and_eq_true,List.all_eq_true,Bool.not_eq_true',List.contains_eq_mem,decide_eq_false_iff_not,beq_eq_false_iff_ne]at px;have ahU:=FD eY inv.om inv.cl ax
  have Sm:∀p∈fW,p∉s.T.getD i []:=λp aB cb=>by
    have:=ahU p cb;rw[inv.L3 (.inl aB)]at this;cases this
  have w2:∀d,o.dst=some d→d<a.tmps.size:=λd Z=>by rw[inv.sz];exact eY.dst i o d aj Z
  refine{om:=by simp[inv.om],ord:=px.2,ru:=λk hk=>?_,sW:=λk hk aJ=>inv.sW k hk (by simp[aJ]),nd:=inv.nd,pw:=λk hk j aM=>inv.pw k hk j (by simp[aM]),ps:=inv.ps,ls:=λk hk=>inv.ls k (by simp[hk]),
         cl:=inv.OE eY ax,qw:=λk hk=>?_,md:=inv.md,rw:=eS,rp:=λt bB=>?_,sz:=by rw[wO];exact inv.sz,df:=by rw[vV];exact inv.df}
  · rw[L2 _ _ _ _ ag4]
    by_cases vD:i=k
    · subst vD
      simp only[if_true,Bool.true_eq_false,false_iff,not_or];exact⟨mY,λh=>(px.1 i h).1.2 rfl⟩
    · rw[if_neg vD,inv.ru k hk]
      simp only[List.mem_cons];constructor
      · rintro(h|h|h)
        · exact .inl h
        · exact absurd h.symm vD
        · exact .inr h
      · rintro(h|h)
        · exact .inl h
        · exact .inr (.inr h)
  · have o9:i≠k:=λe=>mY (e▸hk)
    have aha:k∉s.es:=by obtain⟨_,_,_,q,_⟩:=inv.qw k hk;exact q
    refine(inv.qw k hk).put (λok iP t bB=>?_) (λx u=>u) (λR b2 d Z W=>?_) (λd Z W EU=>?_)
    · constructor
      · rcases Bool.eq_false_or_eq_true (mu ops ok t)with aJ|aJ
        · rcases eY.read i k o ok t aj iP bB o9 aJ with h|⟨_,h⟩
          · exact absurd h (inv.pw k hk i (by simp))
          · exact absurd h (Sm k hk)
        · exact aJ
      · exact λe=>aha (eY.one i k o ok t aj iP bB e o9).2
    · rcases Uf w3 k R b2 with h|h
      · exact absurd h (Sm k hk)
      · exact mU d (h d Z)
    · have h3:d∉news:=λh=>by rw[(qS d h).2]at W;cases W
      rw[V d h3];exact EU
  · by_cases aZ:o.dst=some t
    · rw[aZ,zS a t v t (w2 t aZ),if_pos rfl]
      simp only[ai.put,ai.c4,if_true];exact jg
    · rw[ai.F4 aZ]
      have:(a.put o.dst v).tmps.getD t undef=a.tmps.getD t undef:=by
        cases Z:o.dst with
        |none=>rfl
        |some d=>rw[zS a d v t (w2 d Z),if_neg (λe=>aZ (by rw[Z,e]))]
      rw[this];exact yc hle (g0.refl _) _ _ (td (p:=news.contains) (λd Z=>V d (by simpa using Z)) _ _ (ai.iu aa t) (inv.rp t bB))
end inv
theorem WK(eY:Stat G ops s)(hdr:s.e6=true)(Q:Exit→Act→World→Prop)(K:ai→Y→Prop)(cx:eO)
  (fz:∀env σ a w,K env σ→oT G cx env σ a w→Q .normal a w) :
  ∀(fuel:Nat) (l fW:List Nat) (m:Nat→List Nat) (dG:Array Bool) (log:List (Nat×List Nat)) (env:ai) (σ:Y) (a:Act) (w:World) (I:bw) (β:Nat→Value),
   fW.length+l.length=fuel→Inv G ops s cx m l fW dG log env σ a w I β→e7 G ops s log l env σ K→wpAny G.P .any ops Q fuel dG a w:=by
 intro fuel;induction fuel with
 |zero=>
  intro l fW m dG log env σ a w I β eF inv aa;have aB:fW=[]:=List.eq_nil_of_length_eq_zero (by omega);have aJ:l=[]:=List.eq_nil_of_length_eq_zero (by omega);subst aB aJ;refine⟨?_,fz env σ a w aa ⟨I,β,inv.rw,λt=>inv.rp t (by simp),inv.sz,inv.df⟩⟩;apply List.eq_nil_iff_forall_not_mem.2;intro j aM;obtain⟨h1,o,aj,_⟩:=x5.1 aM;have:=(inv.ru j (Array.getElem?_eq_some_iff.1 aj).1).1 h1;simp at this
 |succ fuel bD=>
  intro l
  have S6:∀{l fW:List Nat} {m:Nat→List Nat} {dG:Array Bool} {log:List (Nat×List Nat)} {env:ai} {σ:Y} {a:Act} {w:World} {I:bw} {β:Nat→Value},fW.length+l.length=fuel+1→
    Inv G ops s cx m l fW dG log env σ a w I β→Region.ready .any ops dG≠[]:=by
   intro l fW m dG log env σ a w I β eF inv;have:∃p,p∈fW∨p∈l:=by
    cases fW with
    |nil=>cases l with
     |nil=>simp at eF
     |cons p _=>exact⟨p,.inr (by simp)⟩
    |cons p _=>exact⟨p,.inl (by simp)⟩
   obtain⟨p,aB⟩:=this;have EX:p<ops.size:=by rcases aB with h|h<;>first|exact inv.ps p h|exact inv.ls p h
   exact alw eY inv.om _ p (Nat.le_refl _) EX ((inv.ru p EX).2 aB)
  induction l with
  |nil=>
   intro fW m dG log env σ a w I β eF inv aa;refine⟨λax=>absurd ax (S6 eF inv),λj aM=>?_⟩;obtain⟨s8,o,aj,_⟩:=x5.1 aM;have n0:j∈fW:=by simpa using (inv.ru j (Array.getElem?_eq_some_iff.1 aj).1).1 s8
   refine inv.UD eY aM n0 λe8 w' aS β' Ko=>bD _ _ _ _ _ _ _ _ _ _ _ ?_ Ko aa;rw[List.length_erase_of_mem n0];have:=List.length_pos_of_mem n0;omega
  |cons i l SL=>
   intro fW m dG log env σ a w I β eF inv aa;obtain⟨o,aj,o7⟩:=aa;have aa:e7 G ops s log (i::l) env σ K:=⟨o,aj,o7⟩;have Sf:(i::fW).length+l.length=fuel+1:=by simp at eF ⊢;omega
   have yq:∀log:List (Nat×List Nat),qf s i [] log=true:=by
    intro log;induction log with
    |nil=>rfl
    |cons x r Km=>obtain⟨k,R⟩:=x;simp[qf,Km]
   have NN:i∈s.es→(∀(_:i∈Region.ready .any ops dG),wpOp G.P ops Q i (wpAny G.P .any ops Q fuel (dG.setIfInBounds i true)) a w)→wpAny G.P .any ops Q (fuel+1) dG a w:=by
    intro i5 B0;refine⟨λax=>absurd ax (S6 eF inv),λj aM=>?_⟩;obtain⟨s8,dK,r4,_⟩:=x5.1 aM;rcases(inv.ru j (Array.getElem?_eq_some_iff.1 r4).1).1 s8 with n0|mh
    ·refine inv.UD eY aM n0 λe8 w' aS β' Ko=>bD _ _ _ _ _ _ _ _ _ _ _ ?_ Ko aa;rw[List.length_erase_of_mem n0];have:=List.length_pos_of_mem n0;omega
    ·rcases List.mem_cons.1 mh with rfl|mh
     ·exact B0 aM
     ·exfalso;have px:=inv.ord;simp only[us,Bool.and_eq_true,List.all_eq_true,Bool.or_eq_true,Bool.not_eq_true',List.contains_eq_mem,decide_eq_false_iff_not,decide_eq_true_eq]at px;have:=(px.1 j mh).2.resolve_left (λh=>h i5);have:=FD eY inv.om inv.cl aM i this;rw[inv.L3 (.inr (by simp))]at this;cases this
   have Pd:fW.length+l.length=fuel:=by simp at eF;omega
   rcases o7 with⟨h1,D,ak⟩|⟨h1,D,dD,R,bE,σ2,af,b2,mU,ha,ak⟩|⟨h1,D,M,news,Φ,g1,w3,hJ,qS,ak⟩|⟨h1,D,ak⟩
   ·exact SL (i::fW) _ dG ((i,[])::log) _ _ a w I _ Sf (inv.oS eY aj (D hdr) (dD:=[]) (R:=[]) (uX.none G σ env) (.inl ⟨h1,rfl,rfl⟩)) ak
   ·exact SL (i::fW) _ dG ((i,R)::log) _ _ a w I _ Sf (inv.oS eY aj (D hdr) af (.inr ⟨h1,ha,b2,mU⟩)) ak
   ·refine NN (D hdr) λax=>?_;have uk:=inv.Lg eY ax aj (λh=>absurd (D hdr) (by obtain⟨_,_,_,q,_⟩:=inv.qw i h;exact q));have aq:=inv.rp.want eY inv.sz uk;unfold wpOp;simp only[aj];rw[aq.1 h1];simp only[if_true];refine .inl (kM.wp (g1 cx I β w a.eval inv.rw (inv.rp.ev uk)) ?_);rintro v w' ⟨bE,az,aS,β',Cm,jg,eS,hle,V,agb⟩;exact bD _ _ _ _ _ _ _ _ _ _ _ Pd (inv.y3 eY aj (D hdr) ax (w3 hdr) hJ qS jg eS hle V agb) (ak bE az Cm)
   ·refine NN (D hdr) λax=>?_;have uk:=inv.Lg eY ax aj (λh=>absurd (D hdr) (by obtain⟨_,_,_,q,_⟩:=inv.qw i h;exact q));have aq:=inv.rp.want eY inv.sz uk;unfold wpOp;simp only[aj];rw[aq.2 h1];simp only[Bool.false_eq_true,if_false];exact bD _ _ _ _ _ _ _ _ _ _ _ Pd (inv.y3 eY aj (D hdr) ax (M:=[]) (news:=[]) (bE:=.undef) (yq log) (ai.pR env) (by simp) (by simp[ar,aO]) inv.rw (b7.refl I) (λ_ _=>rfl) (λ_ _=>rfl)) ak
end any
end
section
def aY(G:cq)(c:Code)(Q:Exit→ai→Y→Prop)(env:ai)(σ:Y):Prop:=
 ∀cx a w,oT G cx env σ a w→c.wp G.P (λe e8 w'=>∃gm az,oT G cx gm az e8 w'∧Q e gm az) a w
variable {c:Code}
theorem aY.mono{G:cq}{Q A9:Exit→ai→Y→Prop}{env:ai}{σ:Y}(h:aY G c Q env σ)(bR:∀e env σ,Q e env σ→A9 e env σ):aY G c A9 env σ:=
 λcx a w ax=>wp_mono (h cx a w ax) λ_ _ _ ⟨gm,az,h1,D⟩=>⟨gm,az,h1,bR _ _ _ D⟩
section code
variable {G:cq}{Q:Exit→ai→Y→Prop}{env:ai}{σ:Y}
theorem A.skip(h:Q .normal env σ):aY G .skip Q env σ:=λ_ _ _ ax=>wp_skip ⟨env,σ,ax,h⟩
theorem A.exit{id:Nat}(h:Q (.exit id) env σ):aY G (.exit id) Q env σ:=λ_ _ _ ax=>wp_exit ⟨env,σ,ax,h⟩
theorem A.ret(h:Q .ret env σ):aY G .ret Q env σ:=λ_ _ _ ax=>wp_ret ⟨env,σ,ax,h⟩
def q8(next:ai→Y→Prop)(Q:Exit→ai→Y→Prop):Exit→ai→Y→Prop
 |.normal,env,σ=>next env σ
 |e,env,σ=>Q e env σ
theorem A.seq{x y:Code}(h:aY G x (q8 (aY G y Q) Q) env σ):aY G (.seq x y) Q env σ:=by
 intro cx a w ax;refine wp_seq (wp_mono (h cx a w ax) ?_);rintro e e8 w' ⟨gm,az,oD,bR⟩;cases e with
 |normal=>exact bR cx e8 w' oD
 |_=>exact⟨gm,az,oD,bR⟩
def OF(id:Nat)(Q:Exit→ai→Y→Prop):Exit→ai→Y→Prop
 |.exit Cq,env,σ=>bif Nat.beq Cq id then Q .normal env σ else Q (.exit Cq) env σ
 |e,env,σ=>Q e env σ
theorem A.block{id:Nat}{x:Code}(h:aY G x (OF id Q) env σ):aY G (.block id x) Q env σ:=by
 intro cx a w ax;refine wp_block (wp_mono (h cx a w ax) ?_);rintro e e8 w' ⟨gm,az,oD,bR⟩;cases e with
 |exit Cq=>
  simp only[OF,Exit.inBlock]at bR ⊢;by_cases h:Cq=id
  ·subst h;simp at bR ⊢;exact⟨gm,az,oD,bR⟩
  ·have:Nat.beq Cq id=false:=by rw[←Bool.not_eq_true,Nat.beq_eq];exact h
   simp only[this,cond_false]at bR;rw[if_neg h];exact⟨gm,az,oD,bR⟩
 |_=>exact⟨gm,az,oD,bR⟩
theorem A.cond{c:Operand}{x y:Code}{b:Bool}(aa:env.ev c=.bool b)(bB:b=true→aY G x Q env σ)(be:b=false→aY G y Q env σ):aY G (.cond c x y) Q env σ:=by
 intro cx a w ax;obtain⟨I,β,h1,D,ak,bc⟩:=ax;have af:=D.ev c;rw[aa]at af;simp only[ar,aO]at af;exact wp_cond_split af (λe=>bB e cx a w ⟨I,β,h1,D,ak,bc⟩) (λe=>be e cx a w ⟨I,β,h1,D,ak,bc⟩)
theorem A.region{id:Nat}{ops:Array Oper}(Z:uO G.N ops=true)(h:e7 G ops ⟨false,[],[]⟩ [] (List.range ops.size) env σ (λenv σ=>Q .normal env σ)):aY G (.region id ops false) Q env σ:=by
 intro cx a w ax;exact wp_region (Gq G ops _ _ (Ue Z) _ cx (λenv σ a w hk ax=>⟨env,σ,ax,hk⟩) _ _ _ _ _ _ h ax)
theorem bS.drew{G:cq}{cx:eO}{I:bw}{β:Nat→Value}{w:World}(h:bS G cx I β σ w):bS G cx I β σ {w with drawn:=w.drawn+1}:=
 {good:=h.good,h9:=h.h9,ja:=h.ja,iL:=h.iL,frame:=h.frame,size:=h.size,tape:=h.tape,os:=h.os,output:=h.output,drawn:=Nat.le_trans h.drawn (Nat.le_succ _),cB:=λd o Z=>aU.heap (w:=w) (w':={w with drawn:=w.drawn+1}) rfl (h.cB d o Z),dn:=h.dn,keep:=h.keep}
theorem A.any{id:Nat}{ops:Array Oper}(T:List (List Nat))(es l:List Nat)(hm:G.P.follows .mixedOrders=true)(W:DD G.N ops ⟨true,T,es⟩ l=true)
    (h:e7 G ops ⟨true,T,es⟩ [] l env σ (λenv σ=>Q .normal env σ)):aY G (.region id ops true) Q env σ:=by
  intro cx a w ax;obtain⟨eY,px,qR⟩:=Stat.of W;obtain⟨I,β,h1,D,ak,bc⟩:=ax
  refine wp_region_any hm (WK eY rfl _ _ cx (λenv σ a w hk ax=>⟨env,σ,ax,hk⟩) ops.size l [] (λ_=>[]) _ [] env σ a _ I β ?_
    {om:=by simp,ord:=px,ru:=λi hi=>?_,sW:=λi hi=>by simp at hi,nd:=List.nodup_nil,pw:=λi hi=>by simp at hi,ps:=λi hi=>by simp at hi,ls:=λi hi=>(qR i).2 hi,
     cl:=λj aM=>?_,qw:=λi hi=>by simp at hi,md:=λi hi=>by simp at hi,rw:=h1.drew,rp:=λt _=>D t,sz:=ak,df:=bc} h)
  ·
    have nd:∀l:List Nat,us ⟨true,T,es⟩ l=true→l.Nodup:=by
      intro l;induction l with
      |nil=>intro _;exact List.nodup_nil
      |cons i l bD=>
        intro h;simp only[us,Bool.and_eq_true,List.all_eq_true,Bool.not_eq_true',beq_eq_false_iff_ne]at h;exact List.nodup_cons.2 ⟨λhi=>(h.1 i hi).1.2 rfl,bD h.2⟩
    have aB:l.Perm (List.range ops.size):=(List.perm_ext_iff_of_nodup (nd l px) List.nodup_range).2 λi=>by rw[List.mem_range];exact(qR i).symm
    simpa using aB.length_eq
  · simp[Array.getD_eq_getD_getElem?,hi,(qR i).1 hi]
  · simp only[Array.getD_eq_getD_getElem?,Array.getElem?_replicate]at aM
    split at aM<;>simp at aM
def b8(G:cq)(env:ai)(σ:Y)(dx:ai)(σ2:Y):Prop:=
 ∀cx I β a w,bS G cx I β σ w→kp I β env a→∃aS β',bS G cx aS β' σ2 w∧kp aS β' dx a
theorem b8.refl(G:cq)(env:ai)(σ:Y):b8 G env σ env σ:=λ_ I β _ _ h dc=>⟨I,β,h,dc⟩
theorem b8.trans{ry dx:ai}{nh σ2:Y}(h:b8 G env σ ry nh)(dc:b8 G ry nh dx σ2):b8 G env σ dx σ2:=λcx I β a w h1 D=>by
 obtain⟨aS,β',ak,bc⟩:=h cx I β a w h1 D;exact dc cx aS β' a w ak bc
theorem b8.rel{dx:ai}{σ2:Y}(h:b8 G env σ dx σ2){cx:eO}{a:Act}{w:World}(ax:oT G cx env σ a w):oT G cx dx σ2 a w:=by
 obtain⟨I,β,h1,D,ak,bc⟩:=ax;obtain⟨aS,β',bX,dV⟩:=h cx I β a w h1 D;exact⟨aS,β',bX,dV,ak,bc⟩
theorem A.weak{c:Code}{dx:ai}{σ2:Y}(h:b8 G env σ dx σ2)(k:aY G c Q dx σ2):aY G c Q env σ:=λcx a w ax=>k cx a w (h.rel ax)
theorem A.loop{c:Code}{α:Type}(fJ:α→ai)(fS:α→Y)(Ht:α→Prop)(μ:α→Nat)(kP:α)(bJ:Ht kP)(aq:b8 G env σ (fJ kP) (fS kP))
  (step:∀g,Ht g→aY G c (q8 (λgm az=>∃iY,Ht iY∧μ iY<μ g∧b8 G gm az (fJ iY) (fS iY)) Q) (fJ g) (fS g)):aY G (.loop c) Q env σ:=by
 intro cx a w ax b k cs
 have key:∀n g a w,μ g=n→Ht g→oT G cx (fJ g) (fS g) a w→∃e e8 w',(∃gm az,oT G cx gm az e8 w'∧Q e gm az)∧
   Arrives G.P (lone (b.at a (.code c::.inLoop c::k)) cs w) b k cs e e8 w':=by
  intro n;induction n using Nat.strongRecOn with
  |_ n bD=>
   intro g a w aT bl ax;obtain⟨e,yU,AJ,bR,mo⟩:=step g bl cx a w ax b (.inLoop c::k) cs;obtain⟨gm,az,oD,bR⟩:=bR;cases e with
   |normal=>
    obtain⟨iY,pY,bQ,ahT⟩:=bR;obtain⟨afJ,ae1,alh,abW,YD⟩:=bD (μ iY) (aT▸bQ) iY yU AJ rfl pY (ahT.rel oD);exact⟨afJ,ae1,alh,abW,.of_steps (Steps.trans mo (.one step_inLoop)) YD⟩
   |exit id=>exact⟨_,yU,AJ,⟨gm,az,oD,bR⟩,.pass (x:=.inLoop c) rfl (λ_ _=>.inl (by simp)) mo⟩
   |goto l=>exact⟨_,yU,AJ,⟨gm,az,oD,bR⟩,.pass (x:=.inLoop c) rfl (λ_ _=>.inl (by simp)) mo⟩
   |ret=>exact⟨_,yU,AJ,⟨gm,az,oD,bR⟩,.pass (x:=.inLoop c) rfl (λ_ _=>.inl (by simp)) mo⟩
   |panic qI=>exact⟨_,yU,AJ,⟨gm,az,oD,bR⟩,.pass (x:=.inLoop c) rfl (λ_ _=>.inl (by simp)) mo⟩
   |outgrown=>exact⟨_,yU,AJ,⟨gm,az,oD,bR⟩,.pass (x:=.inLoop c) rfl (λ_ _=>.inl (by simp)) mo⟩
 obtain⟨e,e8,w',bR,mo⟩:=key _ kP a w rfl bJ (aq.rel ax);exact⟨e,e8,w',bR,.of_steps (.one step_loop) mo⟩
end code
mutual
def U.closed:U→Bool
 |.agg cs=>kL cs
 |.cD cs=>kL cs
 |.fn _ cs=>kL cs
 |.own _=>false
 |.ptr _ _=>false
 |.fm _ _=>false
 |.dm _=>false
 |_=>true
def kL:List U→Bool
 |[]=>true
 |x::r=>x.closed&&kL r
end
mutual
theorem ar.closed{I:bw}{β:Nat→Value}:∀(a:U) (v:Value),a.closed=true→ar I β a v→aO I a v
 |.gq,_,_,_=>trivial
 |.undef,_,_,h=>by simpa only[ar]using h
 |.int _ _,_,_,h=>by simpa only[ar]using h
 |.bool _,_,_,h=>by simpa only[ar]using h
 |.str _,_,_,h=>by simpa only[ar]using h
 |.aX _ _,_,_,h=>by simpa only[ar]using h
 |.fP _,_,_,h=>by simpa only[ar]using h
 |.cV,_,_,h=>by simpa only[ar]using h
 |.mm,_,_,h=>by simpa only[ar]using h
 |.gp _ _,_,_,h=>by simpa only[ar]using h
 |.kD,_,_,h=>by simpa only[ar]using h
 |.de _,_,_,h=>by simpa only[ar]using h
 |.arr _,_,_,h=>by simpa only[ar]using h
 |.agg cs,v,aa,h=>by
  simp only[aO,ar,U.closed]at h aa ⊢;obtain⟨vs,h1,D⟩:=h;exact⟨vs,h1,bO.closed cs _ aa D⟩
 |.cD cs,v,aa,h=>by
  simp only[aO,ar,U.closed]at h aa ⊢;obtain⟨vs,h1,D⟩:=h;exact⟨vs,h1,bO.closed cs _ aa D⟩
 |.fn f cs,v,aa,h=>by
  simp only[aO,ar,U.closed]at h aa ⊢;obtain⟨vs,h1,D⟩:=h;exact⟨vs,h1,bO.closed cs _ aa D⟩
 |.own _,_,aa,_=>by simp[U.closed]at aa
 |.ptr _ _,_,aa,_=>by simp[U.closed]at aa
 |.fm _ _,_,aa,_=>by simp[U.closed]at aa
 |.dm _,_,aa,_=>by simp[U.closed]at aa
theorem bO.closed{I:bw}{β:Nat→Value}:∀(a:List U) (v:List Value),kL a=true→bO I β a v→b9 I a v
 |[],_,_,h=>h
 |x::r,v,aa,h=>by
  simp only[bO,b9,kL,Bool.and_eq_true]at h aa ⊢;obtain⟨ay,bF,h1,D,ak⟩:=h;exact⟨ay,bF,h1,ar.closed x ay aa.1 D,bO.closed r bF aa.2 ak⟩
end
mutual
inductive hP(σ:Y):U→U→Prop
 |refl (a:U):hP σ a a
 |nil (f:Bool):hP σ .cV (.aX f [])
 |kD:hP σ .kD (.aX false [])
 |full (xs:List (List U)):hP σ (.aX true xs) (.aX false xs)
 |own {d:Nat} {T:TypeId} {sz k:Nat} {xs:List (List U)} (h:σ.get d=some (.slice T sz xs k true)):hP σ (.own d) (.aX false xs)
 |win {d:Nat} {T:TypeId} {sz:Nat} {xs:List (List U)} (h:σ.get d=some (.win T sz xs)):hP σ (.own d) (.aX false xs)
 |k4 {d:Nat} {K E:TypeId} {bx:List (U×U)} (h:σ.get d=some (.k4 K E bx)):hP σ (.dm d) (.de bx)
 |agg {cs mR:List U} (h:jD σ cs mR):hP σ (.agg cs) (.agg mR)
 |cD {cs mR:List U} (h:jD σ cs mR):hP σ (.cD cs) (.cD mR)
 |fn {f:Nat} {cs mR:List U} (h:jD σ cs mR):hP σ (.fn f cs) (.fn f mR)
 |gq (a:U):hP σ a .gq
 |gp {f:Nat} {a:U} {cs:List U} (h:hP σ a (.fn f cs)) (aa:kL cs=true):hP σ a (.gp f cs)
inductive jD(σ:Y):List U→List U→Prop
 |nil:jD σ [] []
 |cons {a b:U} {r s:List U} (h:hP σ a b) (t:jD σ r s):jD σ (a::r) (b::s)
end
theorem F8{I:bw}{b:Nat}:∀(cs:List U) (o:Nat) (vs:List Value),b9 I cs vs→(∀(j:Nat) v,vs[j]?=some v→I b ((o+j:Nat))=some v)→jY I b cs o
 |[],_,_,_,_=>trivial
 |x::r,o,vs,h,gR=>by
  simp only[b9]at h;obtain⟨ay,bF,rfl,h1,D⟩:=h;refine⟨⟨ay,by simpa using gR 0 ay rfl,h1⟩,F8 r (o+1) bF D λj v af=>?_⟩;have:=gR (j+1) v (by simpa using af)
  rwa [show o+(j+1)=o+1+j from by omega]at this
theorem lN{I:bw}:∀(xs bu:List U) (vs:List Value),b9 I (xs++bu) vs↔∃bF ws,vs=bF++ws∧b9 I xs bF∧b9 I bu ws
 |[],bu,vs=>by
  simp only[List.nil_append,b9];exact⟨λh=>⟨[],vs,rfl,rfl,h⟩,λ⟨bF,ws,h1,D,ak⟩=>by subst D;simp at h1;subst h1;exact ak⟩
 |x::r,bu,vs=>by
  simp only[List.cons_append,b9];constructor
  ·rintro⟨ay,bF,rfl,h1,D⟩;obtain⟨tQ,ws,rfl,ak,bc⟩:=(lN r bu bF).1 D;exact⟨ay::tQ,ws,rfl,⟨ay,tQ,rfl,h1,ak⟩,bc⟩
  ·rintro⟨bF,ws,rfl,⟨ay,tQ,rfl,h1,ak⟩,bc⟩;exact⟨ay,tQ++ws,rfl,h1,(lN r bu _).2 ⟨tQ,ws,rfl,ak,bc⟩⟩
theorem nv{I:bw}:∀(xs:List U) (vs:List Value),b9 I xs vs→vs.length=xs.length
 |[],vs,h=>by simp only[b9]at h;subst h;rfl
 |x::r,vs,h=>by
  simp only[b9]at h;obtain⟨ay,bF,rfl,_,D⟩:=h;simp[nv r bF D]
theorem qN{I:bw}{β:Nat→Value}:∀(xs:List U) (vs:List Value),bO I β xs vs→vs.length=xs.length
 |[],vs,h=>by simp only[bO]at h;subst h;rfl
 |x::r,vs,h=>by
  simp only[bO]at h;obtain⟨ay,bF,rfl,_,D⟩:=h;simp[qN r bF D]
theorem x2{I:bw}{b:Nat}:∀(xs:List (List U)) (o:Nat) (vs:List Value),b9 I xs.flatten vs→(∀(j:Nat) v,vs[j]?=some v→I b ((o+j:Nat))=some v)→iG I b xs o
 |[],_,_,_,_=>trivial
 |e::r,o,vs,h,gR=>by
  simp only[List.flatten_cons]at h;obtain⟨bF,ws,rfl,h1,D⟩:=(lN _ _ _).1 h;have aJ:=nv _ _ h1
  refine⟨F8 e o bF h1 λj v af=>gR j v (by
    rw[List.getElem?_append_left (by rcases Nat.lt_or_ge j bF.length with dc|dc;exact dc;rw[List.getElem?_eq_none dc]at af;cases af)];exact af),
   x2 r (o+e.length) ws D λj v af=>?_⟩
  have:=gR (bF.length+j) v (by rw[List.getElem?_append_right (by omega)];simpa using af)
  rwa [aJ,←Nat.add_assoc]at this
section sealing
variable {G:cq}{cx:eO}{I:bw}{β:Nat→Value}{σ:Y}{w:World}
theorem bS.slice(h:bS G cx I β σ w){d:Nat}{T:TypeId}{sz k:Nat}{xs:List (List U)}(Z:σ.get d=some (.slice T sz xs k true)){v:Value}(af:ar I β (.own d) v):
  ar I β (.aX false xs) v:=by
 simp only[ar]at af;obtain⟨rfl,W⟩:=af;have:=h.cB d _ Z;simp only[aU]at this;rcases this with h1|⟨h1,rfl,_⟩|⟨b,aF,arr,h1,D,ak,bc,bX,dV,fF,jm,hY,lT,xF⟩
 ·rw[h1]at W;simp[iy]at W
 ·rw[h1];simp only[ar,aO];exact⟨none,0,rfl,by simp,by simp[maxLen],by simp,by simp⟩
 ·rw[h1];simp only[ar,aO];refine⟨_,aF,rfl,D,ak,by simp,.inr ⟨b,0,rfl,?_⟩⟩;refine x2 xs 0 _ dV λj v af=>?_;rw[Nat.zero_add];rw[List.getElem?_take]at af;split at af
  ·rename_i bQ;rw[hY trivial j bQ];simpa using af
  ·cases af
theorem bS.win(h:bS G cx I β σ w){d:Nat}{T:TypeId}{sz:Nat}{xs:List (List U)}(Z:σ.get d=some (.win T sz xs)){v:Value}(af:ar I β (.own d) v):
  ar I β (.aX false xs) v:=by
 simp only[ar]at af;obtain⟨rfl,W⟩:=af;have:=h.cB d _ Z;simp only[aU]at this;rcases this with h1|⟨h1,rfl⟩|⟨b,eG,aF,arr,h1,D,ak,bc,bX,dV,fF,jm,hY⟩
 ·rw[h1]at W;simp[iy]at W
 ·rw[h1];simp only[ar,aO];exact⟨none,0,rfl,by simp,by simp[maxLen],by simp,by simp⟩
 ·rw[h1];simp only[ar,aO];exact⟨_,aF,rfl,D,ak,by simp,.inr ⟨b,eG,rfl,dV⟩⟩
mutual
theorem hP.rep(aq:bS G cx I β σ w):∀{a r:U},hP σ a r→∀v,ar I β a v→ar I β r v
 |_,_,.kD,v,h=>by
  simp only[ar,aO]at h ⊢;obtain⟨a,c,ax,aa⟩:=h;exact⟨some a,c,ax,by simp,aa,by simp,by simp⟩
 |_,_,.refl _,_,h=>h
 |_,_,.gp W aa,v,h=>by
  have h1:=hP.rep aq W v h;simp only[ar,aO]at h1 ⊢;obtain⟨vs,D,ak⟩:=h1;exact⟨vs,D,bO.closed _ _ aa ak⟩
 |_,_,.nil f,v,h=>by
  simp only[ar,aO]at h ⊢;exact⟨none,0,h,by simp,by simp[maxLen],by simp,by simp⟩
 |_,_,.full xs,v,h=>by
  simp only[ar,aO]at h ⊢;obtain⟨a,c,h1,D,ak,_,bc⟩:=h;exact⟨a,c,h1,D,ak,by simp,bc⟩
 |_,_,.own Z,v,h=>aq.slice Z h
 |_,_,.win Z,v,h=>aq.win Z h
 |_,_,.k4 Z,v,h=>by
  simp only[ar]at h;obtain⟨rfl,hm⟩:=h;have:=aq.cB _ _ Z;simp only[aU]at this;rcases this with q|⟨r,es,clock,an,au,aK,_,aG⟩
  ·rw[q]at hm;simp[k3]at hm
  ·rw[an];simp only[ar,aO];exact⟨r,es,clock,rfl,au,aK,aG⟩
 |_,_,.agg W,v,h=>by
  simp only[ar]at h ⊢;obtain⟨vs,h1,D⟩:=h;exact⟨vs,h1,jD.rep aq W _ D⟩
 |_,_,.cD W,v,h=>by
  simp only[ar]at h ⊢;obtain⟨vs,h1,D⟩:=h;exact⟨vs,h1,jD.rep aq W _ D⟩
 |_,_,.fn W,v,h=>by
  simp only[ar]at h ⊢;obtain⟨vs,h1,D⟩:=h;exact⟨vs,h1,jD.rep aq W _ D⟩
 |_,_,.gq _,v,h=>by simp[ar]
theorem jD.rep(aq:bS G cx I β σ w):∀{a r:List U},jD σ a r→∀vs,bO I β a vs→bO I β r vs
 |_,_,.nil,_,h=>h
 |_,_,.cons W bB,vs,h=>by
  simp only[bO]at h ⊢;obtain⟨ay,bF,h1,D,ak⟩:=h;exact⟨ay,bF,h1,hP.rep aq W ay D,jD.rep aq bB bF ak⟩
end
theorem bS.sub{σ2:Y}(h:bS G cx I β σ w)(W:∀d o,σ2.get d=some o→σ.get d=some o):bS G cx I β σ2 w:=
  {h with cB:=λd o e=>h.cB d o (W d o e),
          dn:=λd eD e cw=>by
            obtain⟨o,e⟩:=Option.isSome_iff_exists.1 e;obtain⟨g4,cw⟩:=Option.isSome_iff_exists.1 cw;exact h.dn d eD (by rw[W d o e];rfl) (by rw[W eD g4 cw];rfl)}
def cn.ud:cn→cn
 |.slice T sz xs _ _=>.slice T sz xs xs.length true
 |.map K E bx=>.k4 K E bx
 |o=>o
def Y.freeze(cU:List Nat):Y→Y
 |[]=>[]
 |(d,o)::r=>(d,bif cU.contains d then o.ud else o)::Y.freeze cU r
theorem Y.l8(cU:List Nat):∀(σ:Y) (d:Nat),(Y.freeze cU σ).get d=(σ.get d).map λo=>if d∈cU then o.ud else o
 |[],d=>rfl
 |(k,o)::r,d=>by
  simp only[Y.freeze,Y.c4,Y.l8 cU r d];split
  ·rename_i h;subst h;by_cases hm:k∈cU<;>simp[hm]
  ·rfl
theorem aU.Kn{aS:bw}{d b:Nat}{o:cn}(hle:b7 I aS)(iI:∀aN o,aN≠b→aS aN o=I aN o)(Pe:∀aN∈dA (β d),aN≠b)(gz:aU cx I β w d o):aU cx aS β w d o:=by
 have nB:∀aN,bV (β d)=some aN→aN≠b:=λaN hf=>Pe aN (je hf);cases o with
 |cS cR=>
  simp only[aU]at gz ⊢;rcases gz with q|⟨W,an,au⟩
  ·exact .inl q
  ·exact .inr ⟨W,an,au.go hle λaN hf=>⟨λ_=>rfl,λo=>iI aN o (Pe aN (by rw[an];exact hf)),id⟩⟩
 |gZ T xs t=>
  simp only[aU]at gz ⊢;rcases gz with q|⟨aN,aF,arr,an,au,aK,aG,bb,bC,bY,cK,di,ec,e3⟩
  ·exact .inl q
  ·exact .inr ⟨aN,aF,arr,an,au,aK,aG,bb,mC hle _ _ bC,bY,cK,di,λo=>by rw[iI aN o (nB aN (by rw[an];rfl))];exact ec o,e3⟩
 |vec T xs=>
  simp only[aU]at gz ⊢;rcases gz with q|⟨aN,arr,an,au,aK,aG,bb⟩
  ·exact .inl q
  ·exact .inr ⟨aN,arr,an,au,aK,λo=>by rw[iI aN o (nB aN (by rw[an];rfl))];exact aG o,bb⟩
 |ig es clock bx seen=>
  simp only[aU]at gz ⊢;rcases gz with q|⟨r,fh,an,au,aK,aG,bb,bC,bY⟩
  ·exact .inl q
  ·exact .inr ⟨r,fh,an,au,hle _ _ _ aK,lP hle _ _ aG,bb,λo=>by rw[iI r o (nB r (by rw[an];rfl))];exact bC o,bY⟩
 |fV T e n dL=>
  simp only[aU]at gz ⊢;rcases gz with q|⟨aN,aF,arr,W,an,au,aK,aG,bb,bC,bY,cK,di,ec⟩
  ·exact .inl q
  ·exact .inr ⟨aN,aF,arr,W,an,au,aK,aG,bb,bC,bY,cK,λo=>by rw[iI aN o (nB aN (by rw[an];rfl))];exact di o,ec⟩
 |iX K E e jr dL fx=>
  simp only[aU]at gz ⊢;rcases gz with q|⟨r,es,clock,W,as,an,au,aK,aG,bb,bC,bY,cK⟩
  ·exact .inl q
  ·exact .inr ⟨r,es,clock,W,as,an,au,aK,aG,bb.mono hle,λo=>by rw[iI r o (nB r (by rw[an];rfl))];exact bC o,bY,cK⟩
 |cells T cs=>
  simp only[aU]at gz ⊢;rcases gz with q|⟨aN,m4,an,au,aK,aG,bb⟩
  ·exact .inl q
  ·exact .inr ⟨aN,m4,an,au,rT hle (g0.refl _) _ _ aK,λo=>by rw[iI aN o (nB aN (by rw[an];rfl))];exact aG o,bb⟩
 |slice aW h2 kE eM afM=>
  simp only[aU]at gz ⊢;rcases gz with q|q|⟨aN,xo,m4,an,au,aK,aG,bb,bC,bY,cK,di,ec,e3⟩
  ·exact .inl q
  ·exact .inr (.inl q)
  ·have ct:=nB aN (by rw[an];rfl);exact .inr (.inr ⟨aN,xo,m4,an,au,aK,aG,bb,mC hle _ _ bC,bY,cK,λhz o aj=>by rw[iI aN o ct];exact di hz o aj,λo aj=>by rw[iI aN o ct];exact ec o aj,e3⟩)
 |win aW h2 kE=>
  simp only[aU]at gz ⊢;rcases gz with q|q|⟨aN,g4,xo,m4,an,au,aK,aG,bb,bC,bY,cK,di⟩
  ·exact .inl q
  ·exact .inr (.inl q)
  ·have ct:=nB aN (by rw[an];rfl);exact .inr (.inr ⟨aN,g4,xo,m4,an,au,aK,aG,bb,xX hle _ _ _ bC,bY,λhz o aj=>by rw[iI aN o ct];exact cK hz o aj,di⟩)
 |map K E bx=>
  simp only[aU]at gz ⊢;rcases gz with q|⟨r,es,clock,an,au,aK,aG,bb⟩
  ·exact .inl q
  ·exact .inr ⟨r,es,clock,an,au,lP hle _ _ aK,λo=>by rw[iI r o (nB r (by rw[an];rfl))];exact aG o,bb⟩
 |k4 K E bx=>
  simp only[aU]at gz ⊢;rcases gz with q|⟨r,es,clock,an,au,aK,aG⟩
  ·exact .inl q
  ·exact .inr ⟨r,es,clock,an,hle _ _ _ au,lP hle _ _ aK,aG⟩
 |gj es clock K E bx=>
  simp only[aU]at gz ⊢;rcases gz with q|⟨r,an,au,aK,aG,bb⟩
  ·exact .inl q
  ·exact .inr ⟨r,an,au,lP hle _ _ aK,λo=>by rw[iI r o (nB r (by rw[an];rfl))];exact aG o,bb⟩
 |iter cT pM kI seen=>
  simp only[aU]at gz ⊢;rcases gz with q|⟨r,fh,an,au,aK,aG,bb⟩
  ·exact .inl q
  ·exact .inr ⟨r,fh,an,au,aK,λo=>by rw[iI r o (nB r (by rw[an];rfl))];exact aG o,bb⟩
 |hdr cT n=>exact gz
theorem bS.Yb(h:bS G cx I β σ w)(e:Nat):∃aS,b7 I aS∧bS G cx aS β (σ.freeze [e]) w:=by
 cases he:σ.get e with
 |none=>
  refine⟨I,b7.refl I,h.sub λd o Z=>?_⟩;rw[Y.l8]at Z;cases dw:σ.get d with
  |none=>rw[dw]at Z;cases Z
  |some g4=>
   rw[dw]at Z;have:d∉[e]:=by intro hm;simp at hm;subst hm;rw[he]at dw;cases dw
   simp only[Option.map_some,this,if_false]at Z;exact Z
 |some o=>
  have rz:(∀g4,o.ud=g4→g4=o)→∃aS,b7 I aS∧bS G cx aS β (σ.freeze [e]) w:=by
   intro xP;refine⟨I,b7.refl I,h.sub λd g4 Z=>?_⟩;rw[Y.l8]at Z;cases dw:σ.get d with
   |none=>rw[dw]at Z;cases Z
   |some ey=>
    rw[dw]at Z;simp only[Option.map_some,Option.some.injEq]at Z;split at Z
    ·rename_i hm;simp at hm;subst hm;rw[he]at dw;cases dw;rw[xP g4 Z]
    ·rw[Z]
  cases o with
  |cells T cs=>exact rz (λ_ e=>e.symm)
  |k4 K E bx=>exact rz (λ_ e=>e.symm)
  |gj es clock K E bx=>exact rz (λ_ e=>e.symm)
  |iter cT pM kI seen=>exact rz (λ_ e=>e.symm)
  |hdr cT n=>exact rz (λ_ e=>e.symm)
  |win T sz xs=>exact rz (λ_ e=>e.symm)
  |cS cR=>exact rz (λ_ e=>e.symm)
  |fV T e n dL=>exact rz (λ_ e=>e.symm)
  |gZ T xs t=>exact rz (λ_ e=>e.symm)
  |vec T xs=>exact rz (λ_ e=>e.symm)
  |ig es clock bx seen=>exact rz (λ_ e=>e.symm)
  |iX K E e jr dL fx=>exact rz (λ_ e=>e.symm)
  |map K E bx=>
   have aj:=h.cB e _ he;simp only[aU]at aj;rcases aj with h1|⟨r,es,clock,h1,D,ak,bc,bX,dV⟩
   ·refine⟨I,b7.refl I,{h with cB:=λd o Z=>?_,dn:=λd eD Z dw=>?_}⟩
    ·rw[Y.l8]at Z;cases dw:σ.get d with
     |none=>rw[dw]at Z;cases Z
     |some ey=>
      rw[dw]at Z;simp only[Option.map_some,Option.some.injEq]at Z;subst Z;split
      ·rename_i hm;simp at hm;subst hm;rw[he]at dw;cases dw;exact .inl h1
      ·exact h.cB d ey dw
    ·rw[Y.l8,Option.isSome_map]at Z dw;exact h.dn d eD Z dw
   ·let aS:bw:=λb o=>if b=r∧o=none then some (od es clock)else I b o
    have hle:b7 I aS:=λb o v af=>by
     show(if b=r∧o=none then some (od es clock)else I b o)=some v;split
     ·rename_i cb;obtain⟨rfl,rfl⟩:=cb;rw[bc none]at af;cases af
     ·exact af
    have iI:∀b o,b≠r→aS b o=I b o:=λb o ct=>by
     show(if b=r∧o=none then some (od es clock)else I b o)=_;rw[if_neg (λcb=>ct cb.1)]
    have zk:bV (β e)=some r:=by rw[h1];rfl
    refine⟨aS,hle,{good:=λaN o v af=>?_,h9:=λaN v af=>?_,ja:=λaN o v af=>hle _ _ _ (h.ja _ _ _ af),iL:=λaN V aT o=>?_,frame:=h.frame,size:=h.size,tape:=h.tape,os:=h.os,output:=h.output,drawn:=h.drawn,cB:=λd o Z=>?_,dn:=λd eD Z dw=>?_,keep:=h.keep}⟩
    ·refine h.good aN o v ?_
     change (if aN=r∧some o=none then some (od es clock)else I aN o)=some v at af
     rwa [if_neg (by simp)]at af
    ·change (if aN=r∧none=none then some (od es clock)else I aN none)=some v at af
     split at af
     ·rename_i cb;obtain⟨rfl,_⟩:=cb;exact⟨es,clock,D,(Option.some.inj af).symm⟩
     ·exact h.h9 aN v af
    ·have ct:aN≠r:=λe=>by
      subst e;rcases bX with q|q
      ·omega
      ·exact aT q
     rw[iI aN o ct];exact h.iL aN V aT o
    ·rw[Y.l8]at Z;cases dw:σ.get d with
     |none=>rw[dw]at Z;cases Z
     |some ey=>
      rw[dw]at Z;simp only[Option.map_some,Option.some.injEq]at Z;subst Z;by_cases j2:d=e
      ·subst j2;rw[he]at dw;cases dw;simp only[List.mem_singleton,if_true,cn.ud,aU];exact .inr ⟨r,es,clock,h1,by show(if r=r∧none=none then some (od es clock)else I r none)=_;rw[if_pos ⟨rfl,rfl⟩],lP hle _ _ ak,bX,dV⟩
      ·have hm:d∉[e]:=by simpa using j2
       rw[if_neg hm];refine(h.cB d ey dw).Kn hle iI λaN hf cw=>?_;subst cw;exact h.dn d e (by rw[dw];rfl) (by rw[he];rfl) j2 aN hf (je zk)
    ·rw[Y.l8,Option.isSome_map]at Z dw;exact h.dn d eD Z dw
  |slice T sz xs k cU=>
   have aj:=h.cB e _ he;simp only[aU]at aj;rcases aj with h1|⟨h1,rfl,rfl⟩|⟨b,aF,arr,h1,D,ak,bc,bX,dV,fF,jm,hY,lT,xF⟩
   ·refine⟨I,b7.refl I,{h with cB:=λd o Z=>?_,dn:=λd eD Z dw=>?_}⟩
    ·rw[Y.l8]at Z;cases dw:σ.get d with
     |none=>rw[dw]at Z;cases Z
     |some ey=>
      rw[dw]at Z;simp only[Option.map_some,Option.some.injEq]at Z;subst Z;split
      ·rename_i hm;simp at hm;subst hm;rw[he]at dw;cases dw;exact .inl h1
      ·exact h.cB d ey dw
    ·rw[Y.l8,Option.isSome_map]at Z dw;exact h.dn d eD Z dw
   ·refine⟨I,b7.refl I,{h with cB:=λd o Z=>?_,dn:=λd eD Z dw=>?_}⟩
    ·rw[Y.l8]at Z;cases dw:σ.get d with
     |none=>rw[dw]at Z;cases Z
     |some ey=>
      rw[dw]at Z;simp only[Option.map_some,Option.some.injEq]at Z;subst Z;split
      ·rename_i hm;simp at hm;subst hm;rw[he]at dw;cases dw;exact .inr (.inl ⟨h1,rfl,rfl⟩)
      ·exact h.cB d ey dw
    ·rw[Y.l8,Option.isSome_map]at Z dw;exact h.dn d eD Z dw
   ·let aS:bw:=I.on λaN o=>if aN=b∧o<xs.length*sz then arr[o]? else I aN o
    have hle:b7 I aS:=λaN o v af=>by
     cases o with
     |none=>exact af
     |some o=>
     show(if aN=b∧o<xs.length*sz then arr[o]? else I aN o)=some v;split
     ·rename_i cb;obtain⟨rfl,bQ⟩:=cb;have aa:=h.good aN o v af;simp only[World.cell?,bc]at aa;simpa using aa
     ·exact af
    have iI:∀aN o,aN≠b→aS aN o=I aN o:=λaN o ct=>by
     cases o with
     |none=>rfl
     |some o=>
     show(if aN=b∧o<xs.length*sz then arr[o]? else I aN o)=_;rw[if_neg (λcb=>ct cb.1)]
    have zk:bV (β e)=some b:=by rw[h1];rfl
    refine⟨aS,hle,{good:=λaN o v af=>?_,h9:=h.h9,ja:=λaN o v af=>hle _ _ _ (h.ja _ _ _ af),iL:=λaN V aT o=>?_,frame:=h.frame,size:=h.size,tape:=h.tape,os:=h.os,output:=h.output,drawn:=h.drawn,cB:=λd o Z=>?_,dn:=λd eD Z dw=>?_,keep:=h.keep}⟩
    ·change (if aN=b∧o<xs.length*sz then arr[o]? else I aN o)=some v at af
     split at af
     ·rename_i cb;obtain⟨rfl,bQ⟩:=cb;simp only[World.cell?,bc];simpa using af
     ·exact h.good aN o v af
    ·have ct:aN≠b:=λe=>by
      subst e;rcases xF with q|q
      ·omega
      ·exact aT q
     rw[iI aN o ct];exact h.iL aN V aT o
    ·rw[Y.l8]at Z;cases dw:σ.get d with
     |none=>rw[dw]at Z;cases Z
     |some ey=>
      rw[dw]at Z;simp only[Option.map_some,Option.some.injEq]at Z;subst Z;by_cases j2:d=e
      ·subst j2;rw[he]at dw;cases dw;simp only[List.mem_singleton,if_true,cn.ud,aU];refine .inr (.inr ⟨b,aF,arr,h1,D,ak,bc,bX,mC hle _ _ dV,fF,Nat.le_refl _,λ_ o aj=>?_,λo aj=>?_,xF⟩)
       ·show(if b=b∧o<xs.length*sz then arr[o]? else I b o)=_;rw[if_pos ⟨rfl,aj⟩]
       ·show(if b=b∧o<xs.length*sz then arr[o]? else I b o)=_;rw[if_neg (λcb=>by omega)];exact lT o (Nat.le_trans (Nat.mul_le_mul_right _ jm) aj)
      ·have hm:d∉[e]:=by simpa using j2
       rw[if_neg hm]
       have nB:∀aN∈dA (β d),aN≠b:=λaN hf cw=>by
        subst cw;exact h.dn d e (by rw[dw];rfl) (by rw[he];rfl) j2 aN hf (je zk)
       exact(h.cB d ey dw).Kn hle iI nB
    ·rw[Y.l8,Option.isSome_map]at Z dw;exact h.dn d eD Z dw
theorem bS.CV(h:bS G cx I β σ w):∀cU:List Nat,∃aS,b7 I aS∧bS G cx aS β (σ.freeze cU) w:=by
 intro cU;induction cU generalizing σ I with
 |nil=>
  refine⟨I,b7.refl I,h.sub λd o Z=>?_⟩;rw[Y.l8]at Z;simpa using Z
 |cons e r bD=>
  obtain⟨DN,ahi,h1⟩:=h.Yb e;obtain⟨A5,ES,D⟩:=bD h1;refine⟨A5,ahi.trans ES,D.sub λd o Z=>?_⟩;rw[Y.l8]at Z;rw[Y.l8,Y.l8];cases dw:σ.get d with
  |none=>rw[dw]at Z;cases Z
  |some ey=>
   rw[dw]at Z;simp only[Option.map_some,Option.some.injEq]at Z ⊢;rw[←Z];have agN:ey.ud.ud=ey.ud:=by cases ey<;>rfl
   by_cases j2:d=e
   ·subst j2;by_cases ax:d∈r<;>simp[ax,agN]
   ·by_cases ax:d∈r<;>simp[ax,j2]
end sealing
theorem b8.freeze(G:cq)(env:ai)(σ:Y)(cU:List Nat):b8 G env σ env (σ.freeze cU):=λcx I β a w h dc=>by
 obtain⟨aS,hle,D⟩:=h.CV cU;exact⟨aS,β,D,dc.mono hle (g0.refl β)⟩
theorem b8.drop{G:cq}{env dx:ai}{σ σ2:Y}(he:∀p∈dx,hP σ (env.get p.1) p.2)(W:∀p∈σ2,σ.get p.1=some p.2):b8 G env σ dx σ2:=λcx I β a w h dc=>by
 have Yc:∀(l:ai) t,l.get t=.gq∨∃p∈l,p.1=t∧l.get t=p.2:=by
  intro l;induction l with
  |nil=>exact λ_=>.inl rfl
  |cons x r bD=>
   intro t;obtain⟨k,v⟩:=x;rw[ai.c4];split
   ·rename_i hk;exact .inr ⟨(k,v),by simp,hk,rfl⟩
   ·rcases bD t with h|⟨p,h1,D,ak⟩
    ·exact .inl h
    ·exact .inr ⟨p,by simp[h1],D,ak⟩
 have Yd:∀(l:Y) d o,l.get d=some o→∃p∈l,p.1=d∧p.2=o:=by
  intro l;induction l with
  |nil=>intro d o h;simp[Y.get]at h
  |cons x r bD=>
   intro d o h;obtain⟨k,v⟩:=x;rw[Y.c4]at h;split at h
   ·rename_i hk;injection h with h;exact⟨(k,v),by simp,hk,h⟩
   ·obtain⟨p,h1,D,ak⟩:=bD d o h;exact⟨p,by simp[h1],D,ak⟩
 refine⟨I,β,h.sub λd o Z=>?_,λt=>?_⟩
 ·obtain⟨p,h1,D,ak⟩:=Yd σ2 d o Z;rw[←D,←ak];exact W p h1
 ·rcases Yc dx t with h1|⟨p,h1,D,ak⟩
  ·rw[h1];simp[ar]
  ·rw[ak];subst D;exact(he p h1).rep h _ (dc p.1)
theorem aY.of{G:cq}{Q:Exit→ai→Y→Prop}{env:ai}{σ:Y}(h:∀cx a w,oT G cx env σ a w→c.wp G.P (λe e8 w'=>∃gm az,oT G cx gm az e8 w'∧Q e gm az) a w):aY G c Q env σ:=h
theorem aY.use{G:cq}{Q:Exit→ai→Y→Prop}{env:ai}{σ:Y}(h:aY G c Q env σ)(cx:eO)(a:Act)(w:World)(ax:oT G cx env σ a w):c.wp G.P (λe e8 w'=>∃gm az,oT G cx gm az e8 w'∧Q e gm az) a w:=h cx a w ax
attribute [irreducible] aY
end
section
mutual
def U.cH(r:Nat→Nat):U→U
 |.agg cs=>.agg (py r cs)
 |.cD cs=>.cD (py r cs)
 |.fn f cs=>.fn f (py r cs)
 |.own d=>.own (r d)
 |.ptr d o=>.ptr (r d) o
 |.fm k d=>.fm k (r d)
 |.dm d=>.dm (r d)
 |x=>x
def py(r:Nat→Nat):List U→List U
 |[]=>[]
 |x::t=>x.cH r::py r t
end
mutual
theorem Ms{I:bw}{β β':Nat→Value}{r:Nat→Nat}{p:Nat→Bool}(h:∀d,p d=false→β' (r d)=β d):∀(x:U) (v:Value),x.refs p=false→ar I β x v→ar I β' (x.cH r) v
 |.gq,_,_,_=>trivial
 |.undef,v,_,q=>by simp only[ar,U.cH]at q ⊢;exact q
 |.int _ _,v,_,q=>by simp only[ar,U.cH]at q ⊢;exact q
 |.bool _,v,_,q=>by simp only[ar,U.cH]at q ⊢;exact q
 |.str _,v,_,q=>by simp only[ar,U.cH]at q ⊢;exact q
 |.aX _ _,v,_,q=>by simp only[ar,U.cH]at q ⊢;exact q
 |.fP _,v,_,q=>by simp only[ar,U.cH]at q ⊢;exact q
 |.cV,v,_,q=>by simp only[ar,U.cH]at q ⊢;exact q
 |.mm,v,_,q=>by simp only[ar,U.cH]at q ⊢;exact q
 |.gp _ _,v,_,q=>by simp only[ar,U.cH]at q ⊢;exact q
 |.kD,v,_,q=>by simp only[ar,U.cH]at q ⊢;exact q
 |.de _,v,_,q=>by simp only[ar,U.cH]at q ⊢;exact q
 |.arr _,v,_,q=>by simp only[ar,U.cH]at q ⊢;exact q
 |.agg cs,v,e,q=>by
   simp only[ar,U.cH,U.refs]at q e ⊢;obtain⟨vs,h1,D⟩:=q;exact⟨vs,h1,yd h cs _ e D⟩
 |.cD cs,v,e,q=>by
   simp only[ar,U.cH,U.refs]at q e ⊢;obtain⟨vs,h1,D⟩:=q;exact⟨vs,h1,yd h cs _ e D⟩
 |.fn f cs,v,e,q=>by
   simp only[ar,U.cH,U.refs]at q e ⊢;obtain⟨vs,h1,D⟩:=q;exact⟨vs,h1,yd h cs _ e D⟩
 |.own d,v,e,q=>by
   simp only[ar,U.cH,U.refs]at q e ⊢;rw[h d e];exact q
 |.dm d,v,e,q=>by
   simp only[ar,U.cH,U.refs]at q e ⊢;rw[h d e];exact q
 |.ptr d o,v,e,q=>by
   simp only[ar,U.cH,U.refs]at q e ⊢;rw[h d e];exact q
 |.fm k d,v,e,q=>by
   simp only[ar,U.cH,U.refs]at q e ⊢;rw[h d e];exact q
theorem yd{I:bw}{β β':Nat→Value}{r:Nat→Nat}{p:Nat→Bool}(h:∀d,p d=false→β' (r d)=β d):∀(x:List U) (v:List Value),nE p x=false→bO I β x v→bO I β' (py r x) v
 |[],_,_,q=>q
 |x::xs,v,e,q=>by
   simp only[bO,py,nE,Bool.or_eq_false_iff]at q e ⊢;obtain⟨ay,bF,h1,D,ak⟩:=q;exact⟨ay,bF,h1,Ms h x ay e.1 D,yd h xs bF e.2 ak⟩
end
def pz(r:Nat→Nat):Option (Option Nat×Nat)→Option (Option Nat×Nat)
 |none=>none
 |some (i,t)=>some (i,r t)
def cn.cH(r:Nat→Nat):cn→cn
 |.cells T cs=>.cells T (py r cs)
 |.iter cT pM kI seen=>.iter (r cT) pM kI seen
 |.hdr cT n=>.hdr (r cT) n
 |.fV T e n h=>.fV T (r e) n (pz r h)
 |.iX K E e jr h fx=>.iX K E (r e) jr (pz r h) fx
 |.gZ T xs t=>.gZ T xs (r t)
 |o=>o
def ai.cH(r:Nat→Nat)(env:ai):ai:=env.map λp=>(p.1,p.2.cH r)
def Y.cH(r:Nat→Nat)(σ:Y):Y:=σ.map λp=>(r p.1,p.2.cH r)
theorem ai.NO(r:Nat→Nat):∀(env:ai) t,(env.cH r).get t=(env.get t).cH r
 |[],t=>by simp[ai.cH,ai.get,U.cH]
 |(k,v)::l,t=>by
  have:=ai.NO r l t;simp only[ai.cH]at this ⊢;simp only[List.map_cons,ai.c4];split
  ·rfl
  ·exact this
def ys(r s:Nat→Nat)(ids:List Nat)(env:ai)(σ:Y):Bool:=
 env.clean (λd=>!Nat.beq (s (r d)) d)&&σ.clean (λd=>!Nat.beq (s (r d)) d)&&ids.all (λd=>Nat.beq (s d) d)
theorem b8.cH{G:cq}{env:ai}{σ:Y}(r s:Nat→Nat)(iP:ys r s G.ids env σ=true):b8 G env σ (env.cH r) (σ.cH r):=λcx I β a w h dc=>by
 simp only[ys,Bool.and_eq_true,List.all_eq_true,Nat.beq_eq]at iP;obtain⟨⟨h1,D⟩,ak⟩:=iP
 have V:∀d,(!Nat.beq (s (r d)) d)=false→(λx=>β (s x)) (r d)=β d:=λd Z=>by
  have:s (r d)=d:=by simpa using Z
  show β (s (r d))=β d;rw[this]
 have obj:∀d o,(σ.cH r).get d=some o→∃d0 eG,σ.get d0=some eG∧d=r d0∧o=eG.cH r∧s (r d0)=d0∧nw (λd=>!Nat.beq (s (r d)) d) eG=false:=by
  intro d o Z
  have key:∀(l:Y),l.clean (λd=>!Nat.beq (s (r d)) d)=true→(Y.cH r l).get d=some o→∃d0 eG,l.get d0=some eG∧d=r d0∧o=eG.cH r∧s (r d0)=d0∧nw (λd=>!Nat.beq (s (r d)) d) eG=false:=by
   intro l;induction l with
   |nil=>intro _ h;simp[Y.cH,Y.get]at h
   |cons x t bD=>
    obtain⟨k,v⟩:=x;intro aa h;simp only[Y.clean,Bool.and_eq_true,Bool.not_eq_true',Bool.not_eq_false']at aa;simp only[Y.cH,List.map_cons,Y.c4]at h;have hk:s (r k)=k:=by simpa using aa.1.1
    split at h
    ·rename_i JU;cases h;exact⟨k,v,by simp[Y.c4],JU.symm,rfl,hk,aa.1.2⟩
    ·rename_i JU;obtain⟨d0,eG,an,au,aK,aG,bb⟩:=bD aa.2 h;refine⟨d0,eG,?_,au,aK,aG,bb⟩;rw[Y.c4,if_neg]
     ·exact an
     ·intro e;subst e;exact JU au.symm
  exact key σ D Z
 refine⟨I,λx=>β (s x),{h with cB:=λd o Z=>?_,dn:=λd eD Z dw ct b=>?_,keep:=λd Z=>?_},λt=>?_⟩
 ·obtain⟨d0,eG,an,rfl,rfl,aG,bb⟩:=obj d o Z;have aj:=h.cB d0 eG an;cases eG with
  |cells T cs=>
   simp only[aU,cn.cH,aG]at aj ⊢;rcases aj with q|⟨b,arr,aA,e2,b6,cQ⟩
   ·exact .inl q
   ·exact .inr ⟨b,arr,aA,e2,yd (r:=r) V cs _ bb b6,cQ⟩
  |slice T sz xs k cU=>simpa only[aU,cn.cH,aG]using aj
  |map K E bx=>simpa only[aU,cn.cH,aG]using aj
  |win T sz xs=>simpa only[aU,cn.cH,aG]using aj
  |k4 K E bx=>simpa only[aU,cn.cH,aG]using aj
  |gj es clock K E bx=>simpa only[aU,cn.cH,aG]using aj
  |iter cT pM kI seen=>
   have e:β (s (r cT))=β cT:=V cT bb;simpa only[aU,cn.cH,aG,e]using aj
  |hdr cT n=>
   have e:β (s (r cT))=β cT:=V cT bb;simpa only[aU,cn.cH,aG,e]using aj
  |cS cR=>simpa only[aU,cn.cH,aG]using aj
  |vec T xs=>simpa only[aU,cn.cH,aG]using aj
  |ig es clock bx seen=>simpa only[aU,cn.cH,aG]using aj
  |gZ T xs t=>
   have e:β (s (r t))=β t:=V t bb;simpa only[aU,cn.cH,aG,e]using aj
  |fV T e n dL=>
   simp only[nw,Bool.or_eq_false_iff]at bb;have aA:β (s (r e))=β e:=V e bb.1
   have cb:∀W as,i3 (λx=>β (s x)) W as (pz r dL)↔i3 β W as dL:=λW as=>by
    cases dL with
    |none=>exact Iff.rfl
    |some q=>obtain⟨i,t⟩:=q;cases i<;>simp only[i3,pz,V t bb.2]
   simpa only[aU,cn.cH,aG,aA,cb]using aj
  |iX K E e jr dL fx=>
   simp only[nw,Bool.or_eq_false_iff]at bb;have aA:β (s (r e))=β e:=V e bb.1
   have cb:∀W as,i3 (λx=>β (s x)) W as (pz r dL)↔i3 β W as dL:=λW as=>by
    cases dL with
    |none=>exact Iff.rfl
    |some q=>obtain⟨i,t⟩:=q;cases i<;>simp only[i3,pz,V t bb.2]
   simpa only[aU,cn.cH,aG,aA,cb]using aj
 ·obtain⟨o,Z⟩:=Option.isSome_iff_exists.1 Z;obtain⟨g4,dw⟩:=Option.isSome_iff_exists.1 dw;obtain⟨d0,eG,an,rfl,_,aG,_⟩:=obj d o Z;obtain⟨d1,gd,bU,rfl,_,gT,_⟩:=obj eD g4 dw;simp only[aG,gT];exact h.dn d0 d1 (by rw[an];rfl) (by rw[bU];rfl) (λe=>ct (by rw[e])) b
 ·have:=ak d Z;simp only[this];exact h.keep d Z
 ·rw[ai.NO];exact Ms (r:=r) V _ _ (ai.iu h1 t) (dc t)
variable {G:cq}{σ:Y}
theorem b8.abX{env:ai}(t d:Nat)(T:TypeId)(sz:Nat)(aT:env.get t=.cV)(Z:σ.get d=none)(hi:G.ids.contains d=false)(aa:env.clean (Nat.beq d)=true)(W:σ.clean (Nat.beq d)=true):
  b8 G env σ ((t,.own d)::env) ((d,.slice T sz [] 0 false)::σ):=λcx I β a w h dc=>by
 let β':Nat→Value:=λx=>if x=d then .slice none 0 0 else β x
 have V:∀x,Nat.beq d x=false→β' x=β x:=λx u=>by
  have:x≠d:=λe=>by subst e;simp at u
  show(if x=d then _ else β x)=_;rw[if_neg this]
 have eT:β' d=.slice none 0 0:=by show(if d=d then _ else _)=_;rw[if_pos rfl]
 refine⟨I,β',{h with cB:=λx o e=>?_,dn:=λx y ex sX ct b=>?_,keep:=λx u=>?_},λay=>?_⟩
 ·rw[Y.c4]at e;split at e
  ·rename_i u;subst u;cases e
   simp only[aU,eT];exact .inr (.inl ⟨trivial,trivial,trivial⟩)
  ·obtain⟨bk,bZ⟩:=Y.iu W x o e;exact(h.cB x o e).beta V bk bZ
 ·rw[Y.c4]at ex sX;by_cases u:d=x
  ·subst u;rw[eT];simp[GC]
  ·by_cases ah:d=y
   ·subst ah;rw[eT];simp[GC]
   ·rw[if_neg u]at ex;rw[if_neg ah]at sX;rw[V x (by rw[←Bool.not_eq_true,Nat.beq_eq];exact u),V y (by rw[←Bool.not_eq_true,Nat.beq_eq];exact ah)];exact h.dn x y ex sX ct b
 ·have:d≠x:=λe=>by subst e;simp at hi;exact hi u
  rw[V x (by rw[←Bool.not_eq_true,Nat.beq_eq];exact this)];exact h.keep x u
 ·rw[ai.c4];split
  ·rename_i bB;subst bB;have:=dc t;rw[aT]at this;simp only[ar,aO]at this;simp only[ar,this,eT,iy,and_self]
  ·exact td V _ _ (ai.iu aa ay) (dc ay)
def U.AM:U→Prop
 |.aX _ xs=>xs.length≤maxLen
 |_=>True
def Iw:List U→Prop
 |[]=>True
 |x::r=>x.AM∧Iw r
def U.bf:U→Prop
 |.aX _ xs=>xs.length≤maxLen
 |.agg cs=>Iw cs
 |_=>True
def AN:List U→Prop
 |[]=>True
 |x::r=>x.bf∧AN r
theorem ar.AM{I:bw}{β:Nat→Value}{a:U}{v:Value}(h:ar I β a v):a.AM:=by
 cases a<;>simp only[U.AM]
 simp only[ar,aO]at h;obtain⟨_,_,_,h1,D,_⟩:=h;omega
theorem bO.bf{I:bw}{β:Nat→Value}:∀{a:List U} {v:List Value},bO I β a v→Iw a
 |[],_,_=>trivial
 |x::r,_,h=>by
  simp only[bO]at h;obtain⟨_,_,_,h1,D⟩:=h;exact⟨h1.AM,bO.bf D⟩
theorem ar.bf{I:bw}{β:Nat→Value}{a:U}{v:Value}(h:ar I β a v):a.bf:=by
 cases a<;>simp only[U.bf]
 ·exact h.AM
 ·simp only[ar]at h;obtain⟨_,_,h⟩:=h;exact h.bf
theorem bO.AN{I:bw}{β:Nat→Value}:∀{a:List U} {v:List Value},bO I β a v→AN a
 |[],_,_=>trivial
 |x::r,_,h=>by
  simp only[bO]at h;obtain⟨_,_,_,h1,D⟩:=h;exact⟨h1.bf,bO.AN D⟩
theorem A.bf{G:cq}{c:Code}{Q:Exit→ai→Y→Prop}{env:ai}{σ:Y}(t:Nat)(k:(env.get t).bf→aY G c Q env σ):aY G c Q env σ:=by
 refine aY.of λcx a w ax=>?_;obtain⟨I,β,h1,D,ak,bc⟩:=ax;exact(k (D t).bf).use cx a w ⟨I,β,h1,D,ak,bc⟩
def Y.ids(σ:Y):List Nat:=σ.map (·.1)
def gi(P:Program)(f:FuncId)(hR:Y)(args:List U)(ho:U→Y→Prop):Prop:=
 ∀(cx:eO) (w:World) (I:bw) (β:Nat→Value) (vs:List Value),bS ⟨P,0,hR.ids⟩ cx I β hR w→bO I β args vs→
  Calls P f vs.toArray w (λe w'=>∃v,e=.returned v∧∃r az aS β',ho r az∧ar aS β' r v∧bS ⟨P,0,hR.ids⟩ cx aS β' az w')
theorem gi.mono{P:Program}{f:FuncId}{hR:Y}{args:List U}{ho A8:U→Y→Prop}(h:gi P f hR args ho)(aB:∀r az,ho r az→A8 r az):gi P f hR args A8:=
 λcx w I β vs h1 D=>Calls.mono (h cx w I β vs h1 D) λ_ _ ⟨v,he,r,az,aS,β',an,au,aK⟩=>⟨v,he,r,az,aS,β',aB _ _ an,au,aK⟩
def ef(P:Program)(f:FuncId)(hR:Y)(args:List U)(r:U):Prop:=gi P f hR args (λa az=>a=r∧az=hR)
structure dM(P:Program)(T:TypeId)(n:Nat)(dr:Bool):Prop where
 size:∀w,(sizeOf T).run P w=.ok n w
 agg:∀w,(isAgg T).run P w=.ok dr w
def nL(dr:Bool)(n:Nat)(cs:List U):U:=bif dr then .agg (cs.take n)else cs.headD .gq
theorem zL{I:bw}{β:Nat→Value}:∀(k:Nat) (cs:List U) (vs:List Value),bO I β cs vs→bO I β (cs.drop k) (vs.drop k)
 |0,_,_,h=>by simpa using h
 |k+1,[],vs,h=>by simp only[bO]at h;subst h;simp[bO]
 |k+1,x::r,vs,h=>by
  simp only[bO]at h;obtain⟨ay,bF,rfl,_,D⟩:=h;simpa using zL k r bF D
theorem zM{I:bw}{β:Nat→Value}:∀(k:Nat) (cs:List U) (vs:List Value),bO I β cs vs→bO I β (cs.take k) (vs.take k)
 |0,_,_,_=>by simp[bO]
 |k+1,[],vs,h=>by simp only[bO]at h;subst h;simp[bO]
 |k+1,x::r,vs,h=>by
  simp only[bO]at h;obtain⟨ay,bF,rfl,h1,D⟩:=h;simp only[List.take_succ_cons,bO];exact⟨ay,_,rfl,h1,zM k r bF D⟩
theorem kJ(b o n:Nat):Addr.add ⟨b,o,none⟩ n=⟨b,o+n,none⟩:=by
 unfold Addr.add;split<;>simp_all
variable {P:Program}{T:TypeId}{b:Nat}{dr:Bool}{w:World}
theorem vq{n:Nat}(aH:dM P T n dr){off:Nat}{vs:List Value}(h:∀j,j<n→∃v,vs[j]?=some v∧w.cell? ⟨b,off+j,none⟩=some v)(aT:dr=false→0<n):
  (loadVar T ⟨b,off,none⟩).run P w=.ok (if dr then .agg (vs.take n).toArray else vs.headD undef) w:=by
 unfold loadVar;simp only[Sem.run_bind,aH.agg,Result.andThen_ok];cases dr with
 |true=>
  simp only[if_true,Sem.run_bind,aH.size,Result.andThen_ok];have:(loadCells ⟨b,off,none⟩ n).run P w=.ok (vs.take n).toArray w:=by
   have eF:(vs.take n).length=n:=by
    rw[List.length_take];rcases Nat.lt_or_ge vs.length n with aJ|aJ
    ·obtain⟨v,h1,_⟩:=h vs.length aJ;simp at h1
    ·omega
   have key:=run_loadCells_list (P:=P) w ⟨b,off,none⟩ (vs.take n) (λj v af=>by
    rw[List.getElem?_take]at af;split at af
    ·rename_i aM;obtain⟨dI,h1,D⟩:=h j aM;rw[h1]at af;cases af;rw[kJ];exact D
    ·cases af)
   rw[eF]at key;exact key
  rw[this];rfl
 |false=>
  obtain⟨v,h1,D⟩:=h 0 (aT rfl);simp only[load];simp only[Bool.false_eq_true,if_false,Sem.run];rw[show(⟨b,off,none⟩:Addr)=⟨b,off+0,none⟩from rfl,D];cases vs with
  |nil=>simp at h1
  |cons x r=>simp at h1;subst h1;rfl
theorem Mm{I:bw}{β:Nat→Value}:∀(xs:List Int) (vs:List Value),bO I β (xs.map (U.int .i64)) vs→vs=xs.map (Value.int .i64)
 |[],vs,h=>by simpa only[List.map_nil,bO]using h
 |x::r,vs,h=>by
  simp only[List.map_cons,bO]at h;obtain⟨ay,bF,rfl,h1,D⟩:=h;rw[show ay=Value.int .i64 x by simpa [ar,aO]using h1,Mm r bF D];rfl
theorem GS{I:bw}{β:Nat→Value}:∀(xs:List Int),bO I β (xs.map (U.int .i64)) (xs.map (Value.int .i64))
 |[]=>by simp[bO]
 |x::r=>by simp only[List.map_cons,bO];exact⟨_,_,rfl,by simp[ar,aO],GS r⟩
variable {I:bw}{β:Nat→Value}
theorem NP{xs:List Int}{v:Value}:ar I β (.agg (xs.map (U.int .i64))) v↔ar I β (.arr xs) v:=by
 simp only[ar,aO];constructor
 ·rintro⟨vs,rfl,h⟩;rw[←Mm xs _ h]
 ·rintro rfl;exact⟨_,rfl,by simpa using GS xs⟩
inductive oN(G:cq)(env:ai)(σ:Y):ResultVar→U→Prop
 |tmp (t:Nat):oN G env σ (.tmp t) (env.get t)
 |cell (a T d:Nat) (aW n:Nat) (dr:Bool) (cs:List U) (aC:env.get a=.ptr d 0) (Z:σ.get d=some (.cells aW cs)) (aH:dM G.P T n dr) (aT:cs.length=n) (bJ:dr=false→0<n):oN G env σ (.cell a T) (nL dr n cs)
 |arr (a T d:Nat) (aW n:Nat) (xs:List Int) (aC:env.get a=.ptr d 0) (Z:σ.get d=some (.vec aW xs)) (aH:dM G.P T n true) (aT:xs.length=n):oN G env σ (.cell a T) (.arr xs)
def DF(tmps:Array Value):ResultVar→Sem Value
 |.tmp t=>pure (tmps.getD t undef)
 |.cell a t=>do loadVar t (←asAddr (tmps.getD a undef))
variable {aW:TypeId}
theorem bS.box{cx:eO}(aq:bS G cx I β σ w){d:Nat}{cs:List U}(Z:σ.get d=some (.cells aW cs))(V:bV (β d)=some b):
  ∃arr,β d=.pointer (some ⟨b,0,none⟩)∧w.heap[b]?=some (.cells arr aW (0,0))∧bO I β cs arr.toList∧(∀o,I b o=none)∧Place cx b:=by
 have aj:=aq.cB d _ Z;simp only[aU]at aj;rcases aj with q|⟨eL,arr,an,au,aK,aG,bb⟩
 ·rw[q]at V;simp[bV]at V
 ·have:eL=b:=by rw[an]at V;simpa [bV]using V
  subst this;exact⟨arr,an,au,aK,aG,bb⟩
theorem FE{n:Nat}(aH:dM P T n dr)(bJ:dr=false→0<n){off:Nat}{arr:Array Value}{cs:List U}(V:w.heap[b]?=some (.cells arr aW (0,0)))
  (ax:bO I β cs arr.toList) (aT:off+n≤cs.length):∃v,(loadVar T ⟨b,off,none⟩).run P w=.ok v w∧ar I β (nL dr n (cs.drop off)) v:=by
 have aJ:=qN _ _ ax
 have mg:∀j,j<n→∃v,(arr.toList.drop off)[j]?=some v∧w.cell? ⟨b,off+j,none⟩=some v:=λj aM=>by
  have nZ:off+j<arr.toList.length:=by omega
  refine⟨arr.toList[off+j],by rw[List.getElem?_drop];exact List.getElem?_eq_getElem nZ,?_⟩;simp only[World.cell?,V];simpa using List.getElem?_eq_getElem nZ
 refine⟨_,vq aH mg bJ,?_⟩;have Z:=zL off _ _ ax;cases dr with
 |true=>
  simp only[nL,cond_true,if_true,ar];exact⟨_,rfl,by simpa using zM n _ _ Z⟩
 |false=>
  simp only[nL,cond_false,Bool.false_eq_true,if_false];generalize cs.drop off=ds at Z;cases ds with
  |nil=>simp[ar]
  |cons x r=>
   simp only[bO]at Z;obtain⟨ay,bF,e,Z,_⟩:=Z;rw[e];exact Z
theorem oN.run{G:cq}{env:ai}{σ:Y}{r:ResultVar}{x:U}(h:oN G env σ r x){cx:eO}{I:bw}{β:Nat→Value}{w:World}{a:Act}(aq:bS G cx I β σ w)(bB:kp I β env a):
  ∃v,ar I β x v∧(DF a.tmps r).run G.P w=.ok v w:=by
 cases h with
 |tmp t=>exact⟨_,bB t,rfl⟩
 |cell b T d aW n dr cs aC Z aH aT bJ=>
  have h1:=bB b;rw[aC]at h1;simp only[ar]at h1;obtain⟨aN,fZ,fG⟩:=h1;obtain⟨arr,an,au,aK,_⟩:=aq.box Z fZ;obtain⟨v,hr,hl⟩:=FE aH bJ (off:=0) au aK (by omega);refine⟨v,by simpa using hl,?_⟩;simp only[DF,fG,asAddr,Sem.run_bind,Sem.run_pure,Result.andThen_ok];exact hr
 |arr b T d aW n xs aC Z aH aT=>
  have h1:=bB b;rw[aC]at h1;simp only[ar]at h1;obtain⟨aN,fZ,fG⟩:=h1;have aj:=aq.cB d _ Z;simp only[aU]at aj;rcases aj with q|⟨eL,arr,aA,e2,b6,_⟩
  ·rw[q]at fZ;cases fZ
  have pW:eL=aN:=by rw[aA]at fZ;simpa [bV]using fZ
  subst pW;obtain⟨v,hr,hl⟩:=FE (I:=I) (β:=β) (cs:=xs.map (U.int .i64)) aH (by simp) (off:=0) e2 (by rw[b6];exact GS xs) (by simp;omega);refine⟨v,NP.1 ?_,?_⟩
  ·simp only[nL,cond_true,List.drop_zero]at hl;rw[List.take_of_length_le (by simp;omega)]at hl;exact hl
  ·simp only[DF,fG,asAddr,Sem.run_bind,Sem.run_pure,Result.andThen_ok];exact hr
inductive yJ(G:cq)(env:ai)(σ:Y):List ResultVar→List U→Prop
 |nil:yJ G env σ [] []
 |cons {r:ResultVar} {x:U} {rs:List ResultVar} {xs:List U} (h:oN G env σ r x) (k:yJ G env σ rs xs):yJ G env σ (r::rs) (x::xs)
theorem yJ.run{G:cq}{env:ai}{σ:Y}{rs:List ResultVar}{xs:List U}(h:yJ G env σ rs xs){cx:eO}{I:bw}{β:Nat→Value}{w:World}{a:Act}(aq:bS G cx I β σ w)(bB:kp I β env a):
  ∃vs:List Value,bO I β xs vs∧(rs.mapM (DF a.tmps)).run G.P w=.ok vs w∧vs.length=rs.length:=by
 induction h with
 |nil=>exact⟨[],rfl,rfl,rfl⟩
 |cons h _ bD=>
  obtain⟨v,h1,D⟩:=h.run aq bB;obtain⟨vs,gK,dN,k8⟩:=bD;refine⟨v::vs,⟨v,vs,rfl,h1,gK⟩,?_,by simp[k8]⟩;simp[List.mapM_cons,Sem.run_bind,D,dN]
inductive sB(G:cq)(env:ai)(σ:Y):List ResultVar→U→Prop
 |zero:sB G env σ [] (.cD [])
 |one {r:ResultVar} {x:U} (h:oN G env σ r x):sB G env σ [r] x
 |two {r s:ResultVar} {x y:U} (h:oN G env σ r x) (k:oN G env σ s y):sB G env σ [r,s] (.cD [x,y])
 |three {r s t:ResultVar} {x y z:U} (h:oN G env σ r x) (k:oN G env σ s y) (l:oN G env σ t z):sB G env σ [r,s,t] (.cD [x,y,z])
 |more {rs:List ResultVar} {xs:List U} (h:yJ G env σ rs xs) (aJ:4≤rs.length):sB G env σ rs (.cD xs)
theorem sB.run{G:cq}{env:ai}{σ:Y}{fn:Func}{x:U}(h:sB G env σ fn.results.toList x){cx:eO}{I:bw}{β:Nat→Value}{w:World}{a:Act}(aq:bS G cx I β σ w)(bB:kp I β env a):
  ∃v,ar I β x v∧(results fn a.tmps).run G.P w=.ok v w:=by
 generalize aJ:fn.results.toList=l at h;have ax:fn.results=l.toArray:=by rw[←aJ]
 have he:results fn a.tmps=(do let vs ←l.toArray.mapM (DF a.tmps);pure (if h:vs.size=1 then vs[0]else .tuple vs)):=by
  unfold results;rw[ax];rfl
 rw[he];cases h with
 |zero=>exact⟨.tuple #[],by simp[ar,bO],by simp⟩
 |one h=>
  obtain⟨v,h1,D⟩:=h.run aq bB;refine⟨v,h1,?_⟩;simp[List.mapM_cons,Sem.run_bind,D]
 |two h k=>
  obtain⟨v,h1,D⟩:=h.run aq bB;obtain⟨ay,gK,dN⟩:=k.run aq bB;refine⟨.tuple #[v,ay],?_,?_⟩
  ·simp only[ar];exact⟨_,rfl,v,[ay],rfl,h1,ay,[],rfl,gK,rfl⟩
  ·simp[List.mapM_cons,Sem.run_bind,D,dN]
 |three h k l=>
  obtain⟨v,h1,D⟩:=h.run aq bB;obtain⟨ay,gK,dN⟩:=k.run aq bB;obtain⟨t,jt,hQ⟩:=l.run aq bB;refine⟨.tuple #[v,ay,t],?_,?_⟩
  ·simp only[ar];exact⟨_,rfl,v,[ay,t],rfl,h1,ay,[t],rfl,gK,t,[],rfl,jt,rfl⟩
  ·simp[List.mapM_cons,Sem.run_bind,D,dN,hQ]
 |more h ER=>
  obtain⟨vs,gK,dN,k8⟩:=h.run aq bB;refine⟨.tuple vs.toArray,⟨vs.toArray,rfl,by simpa using gK⟩,?_⟩;have ct:¬vs.length=1:=by omega
  simp[Sem.run_bind,dN,ct]
def z6:Nat→List U→ai
 |_,[]=>[]
 |k,x::r=>(k,x)::z6 (k+1) r
theorem TF{I:bw}{β:Nat→Value}:∀(as:List U) (vs:List Value) (k t:Nat),bO I β as vs→ar I β ((z6 k as).get t) (if k≤t then vs.getD (t-k) undef else undef)∨(z6 k as).get t=.gq
 |[],_,_,_,_=>.inr rfl
 |x::r,vs,k,t,h=>by
  simp only[bO]at h;obtain⟨ay,bF,rfl,h1,D⟩:=h;simp only[z6,ai.c4];split
  ·rename_i hk;subst hk;left;simpa using h1
  ·rename_i hk;rcases TF r bF (k+1) t D with q|q
   ·left;by_cases bQ:k+1≤t
    ·rw[if_pos bQ]at q;rw[if_pos (by omega),show t-k=(t-(k+1))+1 from by omega,List.getD_cons_succ];exact q
    ·rw[if_neg bQ]at q;rw[if_neg (by omega)];exact q
   ·exact .inr q
def NQ(G:cq)(fn:Func)(ho:U→Y→Prop):Exit→ai→Y→Prop
 |.normal,env,σ|.ret,env,σ=>∃cU x r az,sB G env (σ.freeze cU) fn.results.toList x∧hP (σ.freeze cU) x r∧(∀p∈az,(σ.freeze cU).get p.1=some p.2)∧ho r az
 |_,_,_=>False
theorem p8:∀(l:Y) d o,l.get d=some o→∃p∈l,p.1=d∧p.2=o:=by
 intro l;induction l with
 |nil=>intro d o h;simp[Y.get]at h
 |cons x r bD=>
  intro d o h;obtain⟨k,v⟩:=x;rw[Y.c4]at h;split at h
  ·rename_i hk;injection h with h;exact⟨(k,v),by simp,hk,h⟩
  ·obtain⟨p,h1,D,ak⟩:=bD d o h;exact⟨p,by simp[h1],D,ak⟩
theorem gi.enter{f:FuncId}{fn:Func}{c:Code}{hR:Y}{args:List U}{ho:U→Y→Prop}(be:P.funcs[f]?=some fn)(V:fn.body=some c)(mV:args.length≤fn.ntmps)
  (h:AN args→aY ⟨P,fn.ntmps,hR.ids⟩ c (NQ ⟨P,fn.ntmps,hR.ids⟩ fn ho) (z6 0 args) hR):gi P f hR args ho:=by
 intro cx w I β vs aq ax;have eF:=qN _ _ ax;have eS:bS ⟨P,fn.ntmps,hR.ids⟩ cx I β hR w:={aq with};refine calls_of_wp be V ?_;refine wp_mono ((h ax.AN).use cx _ w ⟨I,β,eS,λt=>?_,?_,rfl⟩) ?_
 ·rcases TF args vs 0 t ax with q|q
  ·have:((vs.toArray++Array.replicate (fn.ntmps-vs.toArray.size) undef).getD t undef)=vs.getD t undef:=by
    rw[Array.getD_eq_getD_getElem?,Array.getElem?_append,List.getD_eq_getElem?_getD];split
    ·simp
    ·rename_i R8;have:vs[t]?=none:=List.getElem?_eq_none (by simpa using R8);rw[this,Array.getElem?_replicate];split<;>rfl
   rw[this];simpa using q
  ·rw[q];simp[ar]
 ·simp;omega
 ·rintro e e8 w' ⟨gm,az,⟨aS,β',hr,hl,oZ,pK⟩,bR⟩
  have fin:(∃cU x r σ2,sB ⟨P,fn.ntmps,hR.ids⟩ gm (az.freeze cU) fn.results.toList x∧hP (az.freeze cU) x r∧(∀p∈σ2,(az.freeze cU).get p.1=some p.2)∧ho r σ2)→
    e8.defers=[]∧∃v,(results fn e8.tmps).run P w'=.ok v w'∧(∃fO,Ending.returned v=.returned fO∧∃r az aS β',ho r az∧ar aS β' r fO∧bS ⟨P,0,hR.ids⟩ cx aS β' az w'):=by
   rintro⟨cU,x,r,σ2,an,au,aK,aG⟩;obtain⟨A5,hle,lE⟩:=hr.CV cU;obtain⟨v,dF,dO⟩:=an.run lE (hl.mono hle (g0.refl _));refine⟨pK,v,dO,v,rfl,r,σ2,A5,β',aG,au.rep lE _ dF,?_⟩
   have:=lE.sub (σ2:=σ2) λd o Z=>by
    obtain⟨p,bU,cG,dP⟩:=p8 σ2 d o Z;rw[←cG,←dP];exact aK p bU
   exact{this with}
  cases e with
  |normal=>exact fin bR
  |ret=>exact fin bR
  |exit _=>exact bR.elim
  |goto _=>exact bR.elim
  |panic _=>exact bR.elim
  |outgrown=>exact bR.elim
end
section
theorem Yields.pure{G:cq}{o:Oper}{ev:Operand→U}{σ:Y}{R:List Nat}{bE:U}
  (h:∀(az:Y) (cx:eO) (I:bw) (β:Nat→Value) (w:World) (aP:Operand→Value),(∀d∈R,az.get d=σ.get d)→bS G cx I β az w→(∀x∈o.op.operands,ar I β (ev x) (aP x))→
   ∃v,(execOp aP o).run G.P w=.ok (.value v) w∧ar I β bE v):Yields G o ev σ [] R bE:=by
 intro az cx I β w aP h1 D _ bc;obtain⟨v,ax,af⟩:=h az cx I β w aP h1 D bc;rw[ax];exact⟨I,β,af,D,b7.refl I,λ_ _=>rfl⟩
theorem g8.of{G:cq}{o:Oper}{ev:Operand→U}{σ:Y}{R:List Nat}{bE:U}(h:Yields G o ev σ [] R bE):g8 G o ev σ [] [] (λa az=>a=bE∧az=σ):=by
 intro cx I β w aP aq u;have:=h σ cx I β w aP (λ_ _=>rfl) aq (λd Z=>by simp at Z) u;generalize (execOp aP o).run G.P w=r at this;cases r with
 |halt x w'=>exact this.elim
 |ok n w'=>
  have key:∀v sL,(∃aS β',ar aS β' bE v∧bS G cx aS β' σ sL∧b7 I aS∧(∀d,d∉([]:List Nat)→β' d=β d))→∃Rz az aS β',(Rz=bE∧az=σ)∧ar aS β' Rz v∧bS G cx aS β' az sL∧b7 I aS∧
    (∀d,d∉([]:List Nat)→β' d=β d)∧(∀d,d∉([]:List Nat)→az.get d=σ.get d):=
   λv sL ⟨aS,β',an,au,aK,aG⟩=>⟨bE,σ,aS,β',⟨rfl,rfl⟩,an,au,aK,aG,λ_ _=>rfl⟩
  cases n<;>simp only[kM]at this ⊢
  ·exact key _ _ this
  ·exact key _ _ this
  ·exact Calls.mono this λ_ _ ⟨v,he,af⟩=>⟨v,he,key _ _ af⟩
section steps
variable {G:cq}{ops:Array Oper}{s:jT}{log:List (Nat×List Nat)}{i:Nat}{l:List Nat}{env:ai}{σ:Y}{K:ai→Y→Prop}{o:Oper}{bE:U}
theorem iE.n(bl:o.guard=none):iE ops o env:=by unfold iE;rw[bl];trivial
theorem iE.g{j:Nat}{want p:Bool}{dK:Oper}{gY:Nat}(bl:o.guard=some (j,want))(aM:ops[j]?=some dK)(Z:dK.dst=some gY)(he:env.get gY=.bool p)(aB:p=want):iE ops o env:=by
 unfold iE;rw[bl];exact⟨dK,gY,aM,Z,by rw[he,aB]⟩
theorem k5.g{j:Nat}{want p:Bool}{dK:Oper}{gY:Nat}(bl:o.guard=some (j,want))(aM:ops[j]?=some dK)(Z:dK.dst=some gY)(he:env.get gY=.bool p)(aB:p=!want):k5 ops o env:=by
 unfold k5;rw[bl];exact⟨dK,gY,aM,Z,.inl (by rw[he,aB])⟩
theorem k5.undef{j:Nat}{want:Bool}{dK:Oper}{gY:Nat}(bl:o.guard=some (j,want))(aM:ops[j]?=some dK)(Z:dK.dst=some gY)(he:env.get gY=.undef):k5 ops o env:=by
 unfold k5;rw[bl];exact⟨dK,gY,aM,Z,.inr he⟩
def m3(s:jT)(i:Nat):Bool:=!(s.e6&&s.es.contains i)
def sg(s:jT)(i:Nat):Bool:=!s.e6||s.es.contains i
theorem L4(h:m3 s i=true):s.e6=true→i∉s.es:=λZ=>by simpa [m3,Z]using h
theorem UE(h:sg s i=true):s.e6=true→i∈s.es:=λZ=>by simpa [sg,Z]using h
def Hj(σ:Y)(R:List Nat):Bool:=R.all λd=>(σ.get d).isSome
theorem Vs{R:List Nat}(h:Hj σ R=true):∀d∈R,(σ.get d).isSome:=λd Z=>List.all_eq_true.1 h d Z
theorem C.y{R:List Nat}(aj:ops[i]?=some o)(aq:iE ops o env)(W:m3 s i=true)(b2:Hj σ R=true)(ha:Yields G o env.ev σ [] R bE)
  (k:e7 G ops s ((i,R)::log) l (env.put o.dst bE) σ K):e7 G ops s log (i::l) env σ K:=
 ⟨o,aj,.inr (.inl ⟨aq,L4 W,[],R,bE,σ,uX.none G σ env,Vs b2,λd Z=>by simp at Z,ha,k⟩)⟩
theorem C.skip(aj:ops[i]?=some o)(aq:k5 ops o env)(W:m3 s i=true)(k:e7 G ops s ((i,[])::log) l (env.put o.dst .undef) σ K):e7 G ops s log (i::l) env σ K:=
 ⟨o,aj,.inl ⟨aq,L4 W,k⟩⟩
theorem C.abY(aj:ops[i]?=some o)(aq:k5 ops o env)(W:sg s i=true)(k:e7 G ops s log l (env.put o.dst .undef) σ K):e7 G ops s log (i::l) env σ K:=
 ⟨o,aj,.inr (.inr (.inr ⟨aq,UE W,k⟩))⟩
theorem C.v{d:Nat}{aI:cn}(aj:ops[i]?=some o)(aq:iE ops o env)(W:m3 s i=true)(hi:G.ids.contains d=false)(he:env.clean [d].contains=true)(aa:σ.clean [d].contains=true)(cb:P7 aI=true)
  (ha:Yields G o env.ev ((d,aI)::σ) [d] [d] bE) (k:e7 G ops s ((i,[d])::log) l (env.put o.dst bE) ((d,aI)::σ) K):e7 G ops s log (i::l) env σ K:=
 ⟨o,aj,.inr (.inl ⟨aq,L4 W,[d],[d],bE,(d,aI)::σ,⟨λx u=>by rw[Y.c4,if_neg (λe=>u (by simp[e]))],λx u=>by simp at u;subst u;simpa using hi,he,aa,λx u cT n h=>by simp at u;subst u;rw[Y.c4,if_pos rfl]at h;cases h;cases cb⟩,
  λx u=>by simp at u;subst u;simp[Y.c4],λx u=>u,ha,k⟩)⟩
theorem C.e{M news:List Nat}{Φ:U→Y→Prop}(aj:ops[i]?=some o)(aq:iE ops o env)(W:sg s i=true)(g1:g8 G o env.ev σ M news Φ)(aJ:(!s.e6||qf s i M log)=true)
  (aa:env.clean news.contains=true) (aT:news.all (λd=>!G.ids.contains d&&(σ.get d).isNone)=true) (k:∀bE az,Φ bE az→e7 G ops s log l (env.put o.dst bE) az K):e7 G ops s log (i::l) env σ K:=
 ⟨o,aj,.inr (.inr (.inl ⟨aq,UE W,M,news,Φ,g1,λZ=>by simpa [Z]using aJ,aa,λd Z=>by
  have:=List.all_eq_true.1 aT d Z;simpa using this,k⟩))⟩
theorem C.sX{R:List Nat}(aj:ops[i]?=some o)(aq:iE ops o env)(W:sg s i=true)(ha:Yields G o env.ev σ [] R bE)(k:e7 G ops s log l (env.put o.dst bE) σ K):e7 G ops s log (i::l) env σ K:=by
 have yq:∀log:List (Nat×List Nat),qf s i [] log=true:=by
  intro log;induction log with
  |nil=>rfl
  |cons x r Km=>obtain⟨k,R⟩:=x;simp[qf,Km]
 exact C.e aj aq W (g8.of ha) (by simp[yq]) (ai.pR env) rfl (λa az ⟨h1,D⟩=>by subst h1 D;exact k)
theorem C.nil(k:K env σ):e7 G ops s log [] env σ K:=k
theorem C.split(p:Bool)(h1:p=true→e7 G ops s log l env σ K)(D:p=false→e7 G ops s log l env σ K):e7 G ops s log l env σ K:=by
 cases p
 ·exact D rfl
 ·exact h1 rfl
theorem e7.mono{iW:ai→Y→Prop}(hk:∀env σ,K env σ→iW env σ):∀{l:List Nat} {log:List (Nat×List Nat)} {env:ai} {σ:Y},e7 G ops s log l env σ K→e7 G ops s log l env σ iW
 |[],_,_,_,h=>hk _ _ h
 |_::_,_,_,_,⟨o,aj,h⟩=>⟨o,aj,by
  rcases h with⟨h1,D,ak⟩|⟨h1,D,dD,R,bE,σ2,af,b2,mU,ha,ak⟩|⟨h1,D,M,news,Φ,g1,w3,hJ,qS,ak⟩|⟨h1,D,ak⟩
  ·exact .inl ⟨h1,D,e7.mono hk ak⟩
  ·exact .inr (.inl ⟨h1,D,dD,R,bE,σ2,af,b2,mU,ha,e7.mono hk ak⟩)
  ·exact .inr (.inr (.inl ⟨h1,D,M,news,Φ,g1,w3,hJ,qS,λa az Cm=>e7.mono hk (ak a az Cm)⟩))
  ·exact .inr (.inr (.inr ⟨h1,D,e7.mono hk ak⟩))⟩
end steps
section ops
variable {G:cq}{o:Oper}{ev:Operand→U}{σ:Y}
theorem bG.move{x:Operand}(h:o.op=.move x):Yields G o ev σ [] [] (ev x):=
 .pure λ_ _ _ _ w aP _ _ u=>⟨aP x,by simp[execOp,h],u x (by simp[h,Op.operands])⟩
theorem bG.assign{x:Operand}(h:o.op=.assign x):Yields G o ev σ [] [] (ev x):=
 .pure λ_ _ _ _ w aP _ _ u=>⟨aP x,by simp[execOp,h],u x (by simp[h,Op.operands])⟩
theorem v1{I:bw}{β:Nat→Value}{b:Bool}{v:Value}(h:ar I β (.bool b) v):v=.bool b:=by simpa [ar,aO]using h
theorem iH{I:bw}{β:Nat→Value}{k:IntKind}{n:Int}{v:Value}(h:ar I β (.int k n) v):v=.int k n:=by simpa [ar,aO]using h
theorem NR{I:bw}{β:Nat→Value}{s:ByteArray}{v:Value}(h:ar I β (.str s) v):v=.string s:=by simpa [ar,aO]using h
theorem bG.pick{c a b:Operand}{p:Bool}(h:o.op=.pick c a b)(aa:ev c=.bool p):Yields G o ev σ [] [] (bif p then ev a else ev b):=
 .pure λ_ _ I β w aP _ _ u=>by
  have h1:=u c (by simp[h,Op.operands]);rw[aa]at h1
  have h1:=v1 h1;refine⟨if p then aP a else aP b,by simp[execOp,h,h1,asBool],?_⟩;cases p
  ·exact u b (by simp[h,Op.operands])
  ·exact u a (by simp[h,Op.operands])
theorem bG.HS{c a b:Operand}{p:Bool}(h:o.op=.pick c a b)(aa:ev c=.bool p)(aB:p=true):Yields G o ev σ [] [] (ev a):=by
 have:=bG.pick (G:=G) (σ:=σ) h aa;rw[aB]at this;exact this
theorem bG.HT{c a b:Operand}{p:Bool}(h:o.op=.pick c a b)(aa:ev c=.bool p)(aB:p=false):Yields G o ev σ [] [] (ev b):=by
 have:=bG.pick (G:=G) (σ:=σ) h aa;rw[aB]at this;exact this
def ta(k:IntKind)(n:Int):Prop:=k.wrap n=n
section ints
variable {op:BinOp}{T aW:TypeId}{x y:Operand}{k:IntKind}{m n:Int}
theorem bG.int(h:o.op=.binOp op T x y aW)(u:ev x=.int k m)(ah:ev y=.int k n){r:Value}{bE:U}(aT:op≠.shl∧op≠.shr)
  (ax:∀w,(match op with|.add|.sub|.mul=>Op.intArith op k m n|.quo|.rem=>Op.intDiv op k m n|.and|.or|.xor|.andNot=>Op.intBits op k m n|_=>Op.intCmp op m n:Sem Value).run G.P w=.ok r w)
  (pV:∀I β,ar I β bE r):Yields G o ev σ [] [] bE:=
 .pure λ_ _ I β w aP _ _ hop=>by
  have h1:=hop x (by simp[h,Op.operands]);rw[u]at h1;have h1:=iH h1
  have D:=hop y (by simp[h,Op.operands]);rw[ah]at D;have D:=iH D
  refine⟨r,?_,pV I β⟩;have aA:(eqGuard op T x y (.int k m) (.int k n)).run G.P w=.ok () w:=by
   unfold eqGuard;cases op<;>rfl
  have e2:(binOp op T (.int k m) (.int k n)).run G.P w=.ok r w:=by
   rw[←ax w];cases op<;>first|exact absurd rfl aT.1|exact absurd rfl aT.2|simp[binOp]
  simp[execOp,h,h1,D,aA,e2]
theorem bG.lss(h:o.op=.binOp .lss T x y aW)(u:ev x=.int k m)(ah:ev y=.int k n):Yields G o ev σ [] [] (.bool (decide (m<n))):=
 bG.int h u ah (by decide) (λw=>rfl) (λ_ _=>by simp[ar,aO])
theorem bG.leq(h:o.op=.binOp .leq T x y aW)(u:ev x=.int k m)(ah:ev y=.int k n):Yields G o ev σ [] [] (.bool (decide (m≤n))):=
 bG.int h u ah (by decide) (λw=>rfl) (λ_ _=>by simp[ar,aO])
theorem bG.gtr(h:o.op=.binOp .gtr T x y aW)(u:ev x=.int k m)(ah:ev y=.int k n):Yields G o ev σ [] [] (.bool (decide (n<m))):=
 bG.int h u ah (by decide) (λw=>rfl) (λ_ _=>by simp[ar,aO])
theorem bG.geq(h:o.op=.binOp .geq T x y aW)(u:ev x=.int k m)(ah:ev y=.int k n):Yields G o ev σ [] [] (.bool (decide (n≤m))):=
 bG.int h u ah (by decide) (λw=>rfl) (λ_ _=>by simp[ar,aO])
theorem bG.eql(h:o.op=.binOp .eql T x y aW)(u:ev x=.int k m)(ah:ev y=.int k n):Yields G o ev σ [] [] (.bool (decide (m=n))):=
 bG.int h u ah (by decide) (λw=>rfl) (λ_ _=>by simp only[ar,aO,Value.bool.injEq];rw[Bool.eq_iff_iff];simp)
theorem bG.neq(h:o.op=.binOp .neq T x y aW)(u:ev x=.int k m)(ah:ev y=.int k n):Yields G o ev σ [] [] (.bool (!decide (m=n))):=
 bG.int h u ah (by decide) (λw=>rfl) (λ_ _=>by simp only[ar,aO,Value.bool.injEq];rw[Bool.eq_iff_iff];simp)
theorem bG.add(h:o.op=.binOp .add T x y aW)(u:ev x=.int k m)(ah:ev y=.int k n)(V:ta k (m+n)):Yields G o ev σ [] [] (.int k (m+n)):=
 bG.int h u ah (by decide) (λw=>rfl) (λ_ _=>by simp only[ar,aO];rw[V])
theorem bG.sub(h:o.op=.binOp .sub T x y aW)(u:ev x=.int k m)(ah:ev y=.int k n)(V:ta k (m-n)):Yields G o ev σ [] [] (.int k (m-n)):=
 bG.int h u ah (by decide) (λw=>rfl) (λ_ _=>by simp only[ar,aO];rw[V])
theorem bG.mul(h:o.op=.binOp .mul T x y aW)(u:ev x=.int k m)(ah:ev y=.int k n)(V:ta k (m*n)):Yields G o ev σ [] [] (.int k (m*n)):=
 bG.int h u ah (by decide) (λw=>rfl) (λ_ _=>by simp only[ar,aO];rw[V])
theorem bG.Wg(h:o.op=.binOp .add T x y aW)(u:ev x=.int k m)(ah:ev y=.int k n):Yields G o ev σ [] [] (.int k (k.wrap (m+n))):=
 bG.int h u ah (by decide) (λw=>rfl) (λ_ _=>by simp only[ar,aO])
theorem bG.ajw(h:o.op=.binOp .sub T x y aW)(u:ev x=.int k m)(ah:ev y=.int k n):Yields G o ev σ [] [] (.int k (k.wrap (m-n))):=
 bG.int h u ah (by decide) (λw=>rfl) (λ_ _=>by simp only[ar,aO])
theorem bG.aiy(h:o.op=.binOp .mul T x y aW)(u:ev x=.int k m)(ah:ev y=.int k n):Yields G o ev σ [] [] (.int k (k.wrap (m*n))):=
 bG.int h u ah (by decide) (λw=>rfl) (λ_ _=>by simp only[ar,aO])
theorem bG.rem(h:o.op=.binOp .rem T x y aW)(u:ev x=.int k m)(ah:ev y=.int k n)(aT:n≠0):Yields G o ev σ [] [] (.int k (m.tmod n)):=
 bG.int h u ah (by decide) (λw=>by simp[Op.intDiv,aT];rfl) (λ_ _=>by simp only[ar,aO])
theorem bG.quo(h:o.op=.binOp .quo T x y aW)(u:ev x=.int k m)(ah:ev y=.int k n)(aT:n≠0)(V:ta k (m.tdiv n)):Yields G o ev σ [] [] (.int k (m.tdiv n)):=
 bG.int h u ah (by decide) (λw=>by simp[Op.intDiv,aT];rfl) (λ_ _=>by simp only[ar,aO];rw[V])
def kN(op:BinOp)(k:IntKind)(m n:Int):Int:=
 let a:=BitVec.ofInt k.bits m
 let b:=BitVec.ofInt k.bits n
 match op with
 |.and=>k.wrap (a &&& b).toNat
 |.or=>k.wrap (a ||| b).toNat
 |.xor=>k.wrap (a ^^^ b).toNat
 |.andNot=>k.wrap (a &&& ~~~b).toNat
 |_=>0
theorem bG.and(h:o.op=.binOp .and T x y aW)(u:ev x=.int k m)(ah:ev y=.int k n):Yields G o ev σ [] [] (.int k (kN .and k m n)):=
 bG.int h u ah (by decide) (λw=>rfl) (λ_ _=>by simp[ar,aO,kN])
theorem bG.or(h:o.op=.binOp .or T x y aW)(u:ev x=.int k m)(ah:ev y=.int k n):Yields G o ev σ [] [] (.int k (kN .or k m n)):=
 bG.int h u ah (by decide) (λw=>rfl) (λ_ _=>by simp[ar,aO,kN])
theorem bG.xor(h:o.op=.binOp .xor T x y aW)(u:ev x=.int k m)(ah:ev y=.int k n):Yields G o ev σ [] [] (.int k (kN .xor k m n)):=
 bG.int h u ah (by decide) (λw=>rfl) (λ_ _=>by simp[ar,aO,kN])
theorem bG.andNot(h:o.op=.binOp .andNot T x y aW)(u:ev x=.int k m)(ah:ev y=.int k n):Yields G o ev σ [] [] (.int k (kN .andNot k m n)):=
 bG.int h u ah (by decide) (λw=>rfl) (λ_ _=>by simp[ar,aO,kN])
theorem bG.shift{eM:IntKind}(hop:op=.shl∨op=.shr)(h:o.op=.binOp op T x y aW)(u:ev x=.int k m)(ah:ev y=.int eM n)(aT:0≤n):
  Yields G o ev σ [] [] (.int k (match op with|.shl=>k.wrap (m*2 ^ min n.toNat k.bits)|_=>m.fdiv (2 ^ min n.toNat k.bits))):=
 .pure λ_ _ I β w aP _ _ w4=>by
  have h1:=w4 x (by simp[h,Op.operands]);rw[u]at h1;have h1:=iH h1
  have D:=w4 y (by simp[h,Op.operands]);rw[ah]at D;have D:=iH D
  have zw:¬n<0:=by omega
  rcases hop with rfl|rfl
  ·refine⟨_,by simp[execOp,h,h1,D,eqGuard,binOp,Op.shift,zw];rfl,by simp[ar,aO]⟩
  ·refine⟨_,by simp[execOp,h,h1,D,eqGuard,binOp,Op.shift,zw];rfl,by simp[ar,aO]⟩
end ints
theorem bG.not{T:TypeId}{x:Operand}{b:Bool}(h:o.op=.unOp .not T x)(u:ev x=.bool b):Yields G o ev σ [] [] (.bool (!b)):=
 .pure λ_ _ I β w aP _ _ hop=>by
  have h1:=hop x (by simp[h,Op.operands]);rw[u]at h1;have h1:=v1 h1
  exact⟨.bool (!b),by simp[execOp,h,h1,Op.unary],by simp[ar,aO]⟩
theorem bG.neg{T:TypeId}{x:Operand}{k:IntKind}{n:Int}(h:o.op=.unOp .neg T x)(u:ev x=.int k n)(V:ta k (0-n)):Yields G o ev σ [] [] (.int k (0-n)):=
 .pure λ_ _ I β w aP _ _ hop=>by
  have h1:=hop x (by simp[h,Op.operands]);rw[u]at h1;have h1:=iH h1
  exact⟨.int k (0-n),by simp only[execOp,h,h1,Op.unary,Op.intArith];rw[V];rfl,by simp[ar,aO]⟩
theorem bG.convert{T aW:TypeId}{x:Operand}{k eM:IntKind}{n:Int}(h:o.op=.convert T aW x)(u:ev x=.int k n)(aH:∃d,G.P.underlying T=some d)(BW:G.P.underlying aW=some (.int eM)):Yields G o ev σ [] [] (.int eM (eM.wrap n)):=
 .pure λ_ _ I β w aP _ _ hop=>by
  have h1:=hop x (by simp[h,Op.operands]);rw[u]at h1;have h1:=iH h1
  obtain⟨d,Z⟩:=aH;have aA:∀w,(underlying T).run G.P w=.ok d w:=λw=>by simp[underlying,program,Sem.run,Z]
  have e2:∀w,(underlying aW).run G.P w=.ok (.int eM) w:=λw=>by simp[underlying,program,Sem.run,BW]
  refine⟨.int eM (eM.wrap n),?_,by simp[ar,aO]⟩;simp only[execOp,h,h1];unfold Go.convert;simp only[Sem.run_bind,aA,e2,Result.andThen_ok];cases d<;>rfl
theorem Te{P:Program}(op:BinOp)(t:TypeId)(x y:Operand)(a b:Bool)(w:World):(eqGuard op t x y (.bool a) (.bool b)).run P w=.ok () w:=by
 unfold eqGuard;cases op<;>rfl
theorem akY{P:Program}(T:TypeId)(a b:Bool)(w:World)(aH:P.underlying T=some .bool):(binOp .eql T (.bool a) (.bool b)).run P w=.ok (.bool (a==b)) w:=by
 show(do pure (.bool (←Op.equal T (.bool a) (.bool b))):Sem Value).run P w=_;rw[Sem.run_bind,run_equal_bool w T a b aH];rfl
theorem ak0{P:Program}(T:TypeId)(a b:Bool)(w:World)(aH:P.underlying T=some .bool):(binOp .neq T (.bool a) (.bool b)).run P w=.ok (.bool (!(a==b))) w:=by
 show(do pure (.bool (!(←Op.equal T (.bool a) (.bool b)))):Sem Value).run P w=_;rw[Sem.run_bind,run_equal_bool w T a b aH];rfl
theorem bG.ae3{T aW:TypeId}{x y:Operand}{a b:Bool}(h:o.op=.binOp .eql T x y aW)(u:ev x=.bool a)(ah:ev y=.bool b)(aH:G.P.underlying T=some .bool):Yields G o ev σ [] [] (.bool (a==b)):=
 .pure λ_ _ I β w aP _ _ hop=>by
  have h1:=hop x (by simp[h,Op.operands]);rw[u]at h1;have h1:=v1 h1
  have D:=hop y (by simp[h,Op.operands]);rw[ah]at D;have D:=v1 D
  exact⟨.bool (a==b),by simp only[execOp,h,h1,D,Sem.run_bind,Te,akY T a b w aH,Result.andThen_ok,Sem.run_pure],by simp[ar,aO]⟩
theorem bG.ae5{T aW:TypeId}{x y:Operand}{a b:Bool}(h:o.op=.binOp .neq T x y aW)(u:ev x=.bool a)(ah:ev y=.bool b)(aH:G.P.underlying T=some .bool):Yields G o ev σ [] [] (.bool (!(a==b))):=
 .pure λ_ _ I β w aP _ _ hop=>by
  have h1:=hop x (by simp[h,Op.operands]);rw[u]at h1;have h1:=v1 h1
  have D:=hop y (by simp[h,Op.operands]);rw[ah]at D;have D:=v1 D
  exact⟨.bool (!(a==b)),by simp only[execOp,h,h1,D,Sem.run_bind,Te,ak0 T a b w aH,Result.andThen_ok,Sem.run_pure],by simp[ar,aO]⟩
mutual
def valOf:U→Value
 |.int k n=>.int k n
 |.bool b=>.bool b
 |.str s=>.string s
 |.agg cs=>.agg (uy cs).toArray
 |_=>undef
def uy:List U→List Value
 |[]=>[]
 |x::r=>valOf x::uy r
end
mutual
def U.plain:U→Bool
 |.int _ _=>true
 |.bool _=>true
 |.str _=>true
 |.agg cs=>G7 cs
 |_=>false
def G7:List U→Bool
 |[]=>true
 |x::r=>x.plain&&G7 r
end
mutual
theorem rU{I:bw}{β:Nat→Value}:∀(a:U) (v:Value),a.plain=true→ar I β a v→v=valOf a
 |.int k n,v,_,h=>iH h
 |.bool b,v,_,h=>v1 h
 |.str s,v,_,h=>NR h
 |.agg cs,v,aB,h=>by
  simp only[ar]at h;obtain⟨vs,rfl,h⟩:=h;simp only[valOf,←Ug cs vs.toList (by simpa [U.plain]using aB) h]
 |.gq,_,aB,_|.undef,_,aB,_|.aX _ _,_,aB,_|.fP _,_,aB,_|.cD _,_,aB,_|.fn _ _,_,aB,_|.cV,_,aB,_|.mm,_,aB,_|.own _,_,aB,_|.ptr _ _,_,aB,_|.dm _,_,aB,_|.gp _ _,_,aB,_|.kD,_,aB,_|.fm _ _,_,aB,_=>by simp[U.plain]at aB
theorem Ug{I:bw}{β:Nat→Value}:∀(a:List U) (v:List Value),G7 a=true→bO I β a v→v=uy a
 |[],v,_,h=>h
 |x::r,v,aB,h=>by
  simp only[bO]at h;simp only[G7,Bool.and_eq_true]at aB;obtain⟨ay,bF,rfl,h1,D⟩:=h;simp only[uy,←rU x ay aB.1 h1,←Ug r bF aB.2 D]
end
theorem bG.ajg{T aW:TypeId}{x y:Operand}{a b:U}{r:Bool}(h:o.op=.binOp .eql T x y aW)(u:ev x=a)(ah:ev y=b)(KU:a.plain=true)(pb:b.plain=true)(he:∀w,(do eqGuard .eql T x y (valOf a) (valOf b);binOp .eql T (valOf a) (valOf b):Sem Value).run G.P w=.ok (.bool r) w):
  Yields G o ev σ [] [] (.bool r):=
 .pure λ_ _ I β w aP _ _ hop=>by
  have h1:=hop x (by simp[h,Op.operands]);rw[u]at h1;have h1:=rU a _ KU h1
  have D:=hop y (by simp[h,Op.operands]);rw[ah]at D;have D:=rU b _ pb D
  refine⟨.bool r,?_,by simp[ar,aO]⟩;have:=he w;simp only[execOp,h,h1,D];rw[Sem.run_bind,this];rfl
theorem bG.ajr{T aW:TypeId}{x y:Operand}{a b:U}{r:Bool}(h:o.op=.binOp .neq T x y aW)(u:ev x=a)(ah:ev y=b)(KU:a.plain=true)(pb:b.plain=true)(he:∀w,(do eqGuard .neq T x y (valOf a) (valOf b);binOp .neq T (valOf a) (valOf b):Sem Value).run G.P w=.ok (.bool r) w):
  Yields G o ev σ [] [] (.bool r):=
 .pure λ_ _ I β w aP _ _ hop=>by
  have h1:=hop x (by simp[h,Op.operands]);rw[u]at h1;have h1:=rU a _ KU h1
  have D:=hop y (by simp[h,Op.operands]);rw[ah]at D;have D:=rU b _ pb D
  refine⟨.bool r,?_,by simp[ar,aO]⟩;have:=he w;simp only[execOp,h,h1,D];rw[Sem.run_bind,this];rfl
structure gM(P:Program)(T:TypeId)(f off:Nat):Prop where
 run:∀(a:Addr) w,(Instr.fieldAt T (.pointer (some a)) f).run P w=.ok (.pointer (some (a.add off))) w
theorem TG{I:bw}{b:Nat}:∀(k:Nat) (cs:List U) (o:Nat),jY I b cs o→jY I b (cs.drop k) (o+k)
 |0,cs,o,h=>by simpa using h
 |k+1,[],o,h=>by simp[jY]
 |k+1,x::r,o,h=>by
  simp only[jY]at h;have:=TG k r (o+1) h.2;simpa [show o+1+k=o+(k+1)from by omega]using this
theorem bG.ZQ{T:TypeId}{x:Operand}{f off d p:Nat}(h:o.op=.fieldAddr T x f)(u:ev x=.ptr d p)(be:gM G.P T f off):Yields G o ev σ [] [] (.ptr d (p+off)):=
 .pure λ_ _ I β w aP _ _ hop=>by
  have h1:=hop x (by simp[h,Op.operands]);rw[u]at h1
  simp only[ar]at h1;obtain⟨b,h1,D⟩:=h1;refine⟨.pointer (some ⟨b,p+off,none⟩),?_,by simp only[ar];exact⟨b,h1,rfl⟩⟩;simp[execOp,h,D,be.run,kJ]
theorem bG.ZR{T:TypeId}{x:Operand}{f off:Nat}{cs:List U}(h:o.op=.fieldAddr T x f)(u:ev x=.fP cs)(be:gM G.P T f off):Yields G o ev σ [] [] (.fP (cs.drop off)):=
 .pure λ_ _ I β w aP _ _ hop=>by
  have h1:=hop x (by simp[h,Op.operands]);rw[u]at h1
  simp only[ar,aO]at h1;obtain⟨b,p,h1,D⟩:=h1;refine⟨.pointer (some ⟨b,p+off,none⟩),?_,by simp only[ar,aO];exact⟨b,p+off,rfl,TG off cs p D⟩⟩;simp[execOp,h,h1,be.run,kJ]
theorem La{I:bw}{b:Nat}{w:World}(bl:∀b (o:Nat) v,I b o=some v→w.cell? ⟨b,o,none⟩=some v):∀(cs:List U) (o:Nat),jY I b cs o→
  ∃vs:List Value,b9 I cs vs∧∀j v,vs[j]?=some v→w.cell? ⟨b,o+j,none⟩=some v
 |[],o,_=>⟨[],rfl,λj v h=>by simp at h⟩
 |x::r,o,h=>by
  simp only[jY]at h;obtain⟨⟨ay,h1,D⟩,ak⟩:=h;obtain⟨vs,bc,bX⟩:=La bl r (o+1) ak;refine⟨ay::vs,⟨ay,vs,rfl,D,bc⟩,λj v af=>?_⟩;cases j with
  |zero=>simp at af;subst af;exact bl _ _ _ h1
  |succ j=>
   have:=bX j v (by simpa using af)
   rwa [show o+(j+1)=o+1+j from by omega]
mutual
theorem aO.rep{I:bw}(β:Nat→Value):∀(a:U) (v:Value),aO I a v→ar I β a v
 |.gq,_,_=>by simp[ar]
 |.undef,_,h=>by simpa only[ar]using h
 |.int _ _,_,h=>by simpa only[ar]using h
 |.bool _,_,h=>by simpa only[ar]using h
 |.str _,_,h=>by simpa only[ar]using h
 |.aX _ _,_,h=>by simpa only[ar]using h
 |.fP _,_,h=>by simpa only[ar]using h
 |.cV,_,h=>by simpa only[ar]using h
 |.mm,_,h=>by simpa only[ar]using h
 |.gp _ _,_,h=>by simpa only[ar]using h
 |.kD,_,h=>by simpa only[ar]using h
 |.de _,_,h=>by simpa only[ar]using h
 |.arr _,_,h=>by simpa only[ar]using h
 |.agg cs,v,h=>by
  simp only[aO,ar]at h ⊢;obtain⟨vs,h1,D⟩:=h;exact⟨vs,h1,b9.rep β cs _ D⟩
 |.cD cs,v,h=>by
  simp only[aO,ar]at h ⊢;obtain⟨vs,h1,D⟩:=h;exact⟨vs,h1,b9.rep β cs _ D⟩
 |.fn f cs,v,h=>by
  simp only[aO,ar]at h ⊢;obtain⟨vs,h1,D⟩:=h;exact⟨vs,h1,b9.rep β cs _ D⟩
 |.own _,_,h=>by simp[aO]at h
 |.ptr _ _,_,h=>by simp[aO]at h
 |.fm _ _,_,h=>by simp[aO]at h
 |.dm _,_,h=>by simp[aO]at h
theorem b9.rep{I:bw}(β:Nat→Value):∀(a:List U) (v:List Value),b9 I a v→bO I β a v
 |[],_,h=>h
 |x::r,v,h=>by
  simp only[b9,bO]at h ⊢;obtain⟨ay,bF,h1,D,ak⟩:=h;exact⟨ay,bF,h1,aO.rep β x ay D,b9.rep β r bF ak⟩
end
theorem bG.Ig{T aW:TypeId}{x:Operand}{n d p:Nat}{dr:Bool}{cs:List U}(h:o.op=.load T x)(u:ev x=.ptr d p)(Z:σ.get d=some (.cells aW cs))(aH:dM G.P T n dr)(bJ:(dr||Nat.blt 0 n)=true)(aT:Nat.ble (p+n) cs.length=true):
  Yields G o ev σ [] [d] (nL dr n (cs.drop p)):=
 .pure λaz cx I β w aP b2 aq hop=>by
  have h1:=hop x (by simp[h,Op.operands]);rw[u]at h1
  simp only[ar]at h1;obtain⟨b,h1,D⟩:=h1;obtain⟨arr,an,au,aK,_⟩:=aq.box (by rw[b2 d (by simp)];exact Z) h1;obtain⟨v,hr,hl⟩:=FE aH (λe=>by subst e;simpa using bJ) (off:=p) au aK (by simpa using aT);exact⟨v,by simp[execOp,h,D,Instr.loadAt,Instr.sureAddr,hr],hl⟩
theorem bG.Ih{T:TypeId}{x:Operand}{n:Nat}{dr:Bool}{cs:List U}(h:o.op=.load T x)(u:ev x=.fP cs)(aH:dM G.P T n dr)(bJ:(dr||Nat.blt 0 n)=true)(aT:Nat.ble n cs.length=true):
  Yields G o ev σ [] [] (nL dr n cs):=
 .pure λaz cx I β w aP b2 aq hop=>by
  have h1:=hop x (by simp[h,Op.operands]);rw[u]at h1
  simp only[ar,aO]at h1;obtain⟨b,p,h1,D⟩:=h1;obtain⟨vs,ak,bc⟩:=La aq.good cs p D;have aJ:=nv _ _ ak;have aT:n≤cs.length:=by simpa using aT
  have mg:∀j,j<n→∃v,vs[j]?=some v∧w.cell? ⟨b,p+j,none⟩=some v:=λj aM=>by
   have nZ:j<vs.length:=by omega
   exact⟨vs[j],List.getElem?_eq_getElem nZ,bc j _ (List.getElem?_eq_getElem nZ)⟩
  refine⟨_,by simp only[execOp,h,h1,Instr.loadAt,Instr.sureAddr,Sem.run_bind,Sem.run_pure,Result.andThen_ok,vq aH mg (λe=>by subst e;simpa using bJ)];rfl,?_⟩;have Z:=b9.rep β _ _ ak;cases dr with
  |true=>
   simp only[nL,cond_true,if_true,ar];exact⟨_,rfl,by simpa using zM n _ _ Z⟩
  |false=>
   simp only[nL,cond_false,Bool.false_eq_true,if_false];cases cs with
   |nil=>simp[ar]
   |cons x r=>
    simp only[bO]at Z;obtain⟨ay,bF,e,Z,_⟩:=Z;rw[e];exact Z
structure jh(P:Program)(T E n:Nat):Prop where
 gv:P.underlying T=some (.slice E)
 size:∀w,(sizeOf E).run P w=.ok n w
theorem Lh{I:bw}{b sz:Nat}:∀(xs:List (List U)) (o i:Nat),(∀e∈xs,e.length=sz)→iG I b xs o→i<xs.length→jY I b (xs.getD i []) (o+i*sz)
 |[],_,_,_,_,h=>by simp at h
 |e::r,o,0,_,h,_=>by simp only[iG]at h;simpa using h.1
 |e::r,o,i+1,aJ,h,hi=>by
  simp only[iG]at h;have he:=aJ e (by simp);have:=Lh r (o+e.length) i (λx u=>aJ x (by simp[u])) h.2 (by simpa using hi);rw[he]at this;have e2:o+sz+i*sz=o+(i+1)*sz:=by rw[Nat.add_mul,Nat.one_mul];omega
  rw[e2]at this;simpa using this
theorem bG.P8{α:Type}{T E:Nat}{x:Operand}{f:Bool}{rs:List α}{enc:α→List U}{k}(h:o.op=.call ⟨.builtin .len,#[x],k⟩)(hk:k=#[T])(u:ev x=.aX f (rs.map enc))(aH:G.P.underlying T=some (.slice E)):Yields G o ev σ [] [] (.int .i64 (rs.length:Int)):=
 .pure λaz cx I β w aP b2 aq hop=>by
  subst hk;have h1:=hop x (by simp[h,Op.operands,Call.operands]);rw[u]at h1
  simp only[ar,aO,List.length_map]at h1;obtain⟨a,c,h1,_⟩:=h1;have aA:∀w,(underlying T).run G.P w=.ok (.slice E) w:=λw=>by simp[underlying,program,Sem.run,aH]
  exact⟨.int .i64 rs.length,by simp[execOp,h,resolve,invoke,builtin,Builtin.len_,h1,aA,goInt],by simp[ar,aO]⟩
theorem bG.aim{T E:Nat}{x:Operand}{k}(h:o.op=.call ⟨.builtin .len,#[x],k⟩)(hk:k=#[T])(u:ev x=.cV)(aH:G.P.underlying T=some (.slice E)):Yields G o ev σ [] [] (.int .i64 0):=
 .pure λaz cx I β w aP b2 aq hop=>by
  subst hk;have h1:=hop x (by simp[h,Op.operands,Call.operands]);rw[u]at h1
  simp only[ar,aO]at h1;have aA:∀w,(underlying T).run G.P w=.ok (.slice E) w:=λw=>by simp[underlying,program,Sem.run,aH]
  exact⟨.int .i64 0,by simp[execOp,h,resolve,invoke,builtin,Builtin.len_,h1,aA,goInt],by simp[ar,aO]⟩
theorem bG.ain{T:Nat}{x:Operand}{s:ByteArray}{k}(h:o.op=.call ⟨.builtin .len,#[x],k⟩)(hk:k=#[T])(u:ev x=.str s)(aH:G.P.underlying T=some .string):Yields G o ev σ [] [] (.int .i64 (s.size:Int)):=
 .pure λaz cx I β w aP b2 aq hop=>by
  subst hk;have h1:=hop x (by simp[h,Op.operands,Call.operands]);rw[u]at h1;have h1:=NR h1
  have aA:∀w,(underlying T).run G.P w=.ok .string w:=λw=>by simp[underlying,program,Sem.run,aH]
  exact⟨.int .i64 s.size,by simp[execOp,h,resolve,invoke,builtin,Builtin.len_,h1,aA,goInt],by simp[ar,aO]⟩
theorem Uh{G:cq}{cx:eO}{I:bw}{β:Nat→Value}{σ:Y}{w:World}(aq:bS G cx I β σ w){d:Nat}{T sz k:Nat}{cU:Bool}{xs:List (List U)}(Z:σ.get d=some (.slice T sz xs k cU)){v:Value}(af:ar I β (.own d) v):
  ∃a c,v=.slice a xs.length c∧xs.length≤c∧c≤maxLen:=by
 simp only[ar]at af;obtain⟨rfl,W⟩:=af;have:=aq.cB d _ Z;simp only[aU]at this;rcases this with h1|⟨h1,rfl,_⟩|⟨b,aF,arr,h1,D,ak,_⟩
 ·rw[h1]at W;simp[iy]at W
 ·exact⟨none,0,h1,by simp,by simp[maxLen]⟩
 ·exact⟨_,aF,h1,D,ak⟩
theorem bG.P9{α:Type}{T E:Nat}{x:Operand}{d aW sz n:Nat}{cU:Bool}{rs:List α}{enc:α→List U}{k}(h:o.op=.call ⟨.builtin .len,#[x],k⟩)(hk:k=#[T])(u:ev x=.own d)(Z:σ.get d=some (.slice aW sz (rs.map enc) n cU))(aH:G.P.underlying T=some (.slice E)):Yields G o ev σ [] [d] (.int .i64 (rs.length:Int)):=
 .pure λaz cx I β w aP b2 aq hop=>by
  subst hk;have h1:=hop x (by simp[h,Op.operands,Call.operands]);rw[u]at h1
  obtain⟨a,c,h1,_⟩:=Uh aq (by rw[b2 d (by simp)];exact Z) h1;have aA:∀w,(underlying T).run G.P w=.ok (.slice E) w:=λw=>by simp[underlying,program,Sem.run,aH]
  exact⟨.int .i64 rs.length,by simp[execOp,h,resolve,invoke,builtin,Builtin.len_,h1,aA,goInt],by simp[ar,aO]⟩
theorem Gr{I:bw}{β:Nat→Value}:∀{xs:List U} {vs:List Value} {j:Nat} {a:U},bO I β xs vs→xs[j]?=some a→∃v,vs[j]?=some v∧ar I β a v
 |[],_,_,_,_,h=>by simp at h
 |x::r,vs,0,a,h,aM=>by
  simp only[bO]at h;obtain⟨ay,bF,rfl,h1,_⟩:=h;simp at aM;subst aM
  exact⟨ay,by simp,h1⟩
 |x::r,vs,j+1,a,h,aM=>by
  simp only[bO]at h;obtain⟨ay,bF,rfl,_,D⟩:=h;obtain⟨v,ak,bc⟩:=Gr D (by simpa using aM);exact⟨v,by simpa using ak,bc⟩
theorem bG.extract{x:Operand}{j:Nat}{vs:List U}{a:U}(h:o.op=.extract x j)(u:ev x=.cD vs)(aM:vs[j]?=some a):Yields G o ev σ [] [] a:=
 .pure λaz cx I β w aP b2 aq hop=>by
  have h1:=hop x (by simp[h,Op.operands]);rw[u]at h1
  simp only[ar]at h1;obtain⟨bF,h1,D⟩:=h1;obtain⟨v,ak,bc⟩:=Gr D aM;have ak:bF[j]?=some v:=by simpa using ak
  exact⟨v,by simp[execOp,h,h1,Instr.extract,ak],bc⟩
theorem bG.Wn{x:Operand}{d p:Nat}(h:o.op=.nilCheck x)(u:ev x=.ptr d p):Yields G o ev σ [] [] (.ptr d p):=
 .pure λaz cx I β w aP b2 aq hop=>by
  have h1:=hop x (by simp[h,Op.operands]);rw[u]at h1
  have D:=h1;simp only[ar]at h1;obtain⟨b,_,h1⟩:=h1;exact⟨aP x,by simp[execOp,h,h1],D⟩
theorem bG.Wo{x:Operand}{cs:List U}(h:o.op=.nilCheck x)(u:ev x=.fP cs):Yields G o ev σ [] [] (.fP cs):=
 .pure λaz cx I β w aP b2 aq hop=>by
  have h1:=hop x (by simp[h,Op.operands]);rw[u]at h1
  have D:=h1;simp only[ar,aO]at h1;obtain⟨b,p,h1,_⟩:=h1;exact⟨aP x,by simp[execOp,h,h1],D⟩
end ops
end
section
structure gn(w w':World)(b:Nat):Prop where
 block:∀k,k≠b→k<w.heap.size→w'.heap[k]?=w.heap[k]?
 size:w.heap.size≤w'.heap.size
 tape:w'.tape=w.tape
 os:w'.os=w.os
 output:w'.output=w.output
 drawn:w.drawn≤w'.drawn
theorem gV{w:World}{b:Nat}{x:Obj}(h:w.heap[b]?=some x):b<w.heap.size:=(Array.getElem?_eq_some_iff.1 h).1
theorem aU.keep{cx:eO}{I aS:bw}{β β':Nat→Value}{w w':World}{x:Nat}{o:cn}{b:Nat}(h:aU cx I β w x o)(hk:gn w w' b)(u:β' x=β x)(Qa:b∉dA (β x))(hle:b7 I aS)(gR:∀aN,aN≠b→∀o,aS aN o=I aN o)(cb:g0 β β'):
  aU cx aS β' w' x o:=by
 have ct:bV (β x)≠some b:=λe=>Qa (je e);cases o with
 |cS cR=>
  simp only[aU,u]at h ⊢;rcases h with q|⟨W,an,au⟩
  ·exact .inl q
  ·refine .inr ⟨W,an,au.go hle λaN hf=>?_⟩;have V:aN≠b:=λe=>Qa (by rw[an,←e];exact hf);exact⟨λbQ=>hk.block aN V bQ,gR aN V,id⟩
 |gZ T xs t=>
  simp only[aU,u]at h ⊢;rcases h with q|⟨aN,aF,arr,an,au,aK,aG,bb,bC,bY,cK,di,ec,e3⟩
  ·exact .inl q
  ·have V:aN≠b:=λe=>ct (by rw[an,e];rfl);have aA:β' t=β t:=by
    rcases cb t with aA|aA
    ·exact absurd aA di
    ·exact aA
   exact .inr ⟨aN,aF,arr,an,au,aK,(hk.block aN V (gV aG)).trans aG,bb,mC hle _ _ bC,bY,by rw[aA];exact cK,by rw[aA];exact di,λo=>(gR aN V o).trans (ec o),e3⟩
 |vec T xs=>
  simp only[aU,u]at h ⊢;rcases h with q|⟨aN,arr,an,au,aK,aG,bb⟩
  ·exact .inl q
  ·have V:aN≠b:=λe=>ct (by rw[an,e];rfl);exact .inr ⟨aN,arr,an,(hk.block aN V (gV au)).trans au,aK,λo=>(gR aN V o).trans (aG o),bb⟩
 |ig es clock bx seen=>
  simp only[aU,u]at h ⊢;rcases h with q|⟨r,fh,an,au,aK,aG,bb,bC,bY⟩
  ·exact .inl q
  ·have V:r≠b:=λe=>ct (by rw[an,e];rfl);exact .inr ⟨r,fh,an,(hk.block r V (gV au)).trans au,hle _ _ _ aK,lP hle _ _ aG,bb,λo=>(gR r V o).trans (bC o),bY⟩
 |fV T e n dL=>
  simp only[aU,u]at h ⊢;rcases h with q|⟨aN,aF,arr,W,an,au,aK,aG,bb,bC,bY,cK,di,ec⟩
  ·exact .inl q
  ·have V:aN≠b:=λe=>ct (by rw[an,e];rfl);have aA:β' e=β e:=by
    rcases cb e with aA|aA
    ·rw[aA]at bC;cases bC
    ·exact aA
   exact .inr ⟨aN,aF,arr,W,an,au,aK,(hk.block aN V (gV aG)).trans aG,bb,by rw[aA];exact bC,bY,cK.hle cb,λo=>(gR aN V o).trans (di o),ec⟩
 |iX K E e jr dL fx=>
  simp only[aU,u]at h ⊢;rcases h with q|⟨r,es,clock,W,as,an,au,aK,aG,bb,bC,bY,cK⟩
  ·exact .inl q
  ·have V:r≠b:=λe=>ct (by rw[an,e];rfl);have aA:β' e=β e:=by
    rcases cb e with aA|aA
    ·rw[aA]at aK;cases aK
    ·exact aA
   exact .inr ⟨r,es,clock,W,as,an,(hk.block r V (gV au)).trans au,by rw[aA];exact aK,aG.hle cb,bb.mono hle,λo=>(gR r V o).trans (bC o),bY,cK⟩
 |cells T cs=>
  simp only[aU,u]at h ⊢;rcases h with q|⟨aN,arr,an,au,aK,aG,bb⟩
  ·exact .inl q
  ·have V:aN≠b:=λe=>ct (by rw[an,e];rfl);exact .inr ⟨aN,arr,an,(hk.block aN V (gV au)).trans au,rT hle cb _ _ aK,λo=>(gR aN V o).trans (aG o),bb⟩
 |slice T sz xs k cU=>
  simp only[aU,u]at h ⊢;rcases h with q|q|⟨aN,aF,arr,an,au,aK,aG,bb,bC,bY,cK,di,ec,e3⟩
  ·exact .inl q
  ·exact .inr (.inl q)
  ·have V:aN≠b:=λe=>ct (by rw[an,e];rfl);exact .inr (.inr ⟨aN,aF,arr,an,au,aK,(hk.block aN V (gV aG)).trans aG,bb,mC hle _ _ bC,bY,cK,λhz o aj=>(gR aN V o).trans (di hz o aj),λo aj=>(gR aN V o).trans (ec o aj),e3⟩)
 |win T sz xs=>
  simp only[aU,u]at h ⊢;rcases h with q|q|⟨aN,g4,aF,arr,an,au,aK,aG,bb,bC,bY,cK,di⟩
  ·exact .inl q
  ·exact .inr (.inl q)
  ·have V:aN≠b:=λe=>ct (by rw[an,e];rfl);exact .inr (.inr ⟨aN,g4,aF,arr,an,au,aK,(hk.block aN V (gV aG)).trans aG,bb,xX hle _ _ _ bC,bY,λhz o aj=>(gR aN V o).trans (cK hz o aj),di⟩)
 |map K E bx=>
  simp only[aU,u]at h ⊢;rcases h with q|⟨r,es,clock,an,au,aK,aG,bb⟩
  ·exact .inl q
  ·have V:r≠b:=λe=>ct (by rw[an,e];rfl);exact .inr ⟨r,es,clock,an,(hk.block r V (gV au)).trans au,lP hle _ _ aK,λo=>(gR r V o).trans (aG o),bb⟩
 |k4 K E bx=>
  simp only[aU,u]at h ⊢;rcases h with q|⟨r,es,clock,an,au,aK,aG⟩
  ·exact .inl q
  ·exact .inr ⟨r,es,clock,an,hle _ _ _ au,lP hle _ _ aK,aG⟩
 |gj es clock K E bx=>
  simp only[aU,u]at h ⊢;rcases h with q|⟨r,an,au,aK,aG,bb⟩
  ·exact .inl q
  ·have V:r≠b:=λe=>ct (by rw[an,e];rfl);exact .inr ⟨r,an,(hk.block r V (gV au)).trans au,lP hle _ _ aK,λo=>(gR r V o).trans (aG o),bb⟩
 |iter cT pM kI seen=>
  simp only[aU,u]at h ⊢;rcases h with q|⟨r,fh,an,au,aK,aG,bb⟩
  ·exact .inl q
  ·have V:r≠b:=λe=>ct (by rw[an,e];rfl);have KX:bV (β' cT)=some fh:=by
    rcases cb cT with e|e
    ·rw[e]at au;simp[bV]at au
    ·rw[e];exact au
   exact .inr ⟨r,fh,an,KX,(hk.block r V (gV aK)).trans aK,λo=>(gR r V o).trans (aG o),bb⟩
 |hdr cT n=>
  simp only[aU,u]at h ⊢;obtain⟨an,a,c,au⟩:=h;rcases cb cT with e|e
  ·rw[e]at au;cases au
  ·exact⟨an,a,c,by rw[e];exact au⟩
theorem jN.at{cx:eO}{I:bw}{w:World}{x:gP}{v:Value}(h:jN cx I w x v){b:Nat}(V:bV v=some b):b<w.heap.size∧Place cx b:=by
 cases x with
 |sl T sz xs=>
  rcases h with⟨h,_⟩|⟨aN,aF,arr,h1,_,_,bc,_,_,_,_,hY⟩
  ·rw[h]at V;simp[bV]at V
  ·rw[h1]at V;simp[bV]at V;subst V;exact⟨gV bc,hY⟩
 |mp K E bx=>
  obtain⟨r,es,clock,h1,D,_,_,bX,_⟩:=h;rw[h1]at V;simp[bV]at V;subst V;exact⟨gV D,bX⟩
theorem hp.at{cx:eO}{I:bw}{w:World}:∀{cR:List gP} {vs:List Value},hp cx I w cR vs→∀{b:Nat},b∈vs.filterMap bV→b<w.heap.size∧Place cx b
 |[],_,h,b,V=>by rw[show _=[]from h]at V;cases V
 |x::r,_,h,b,V=>by
  obtain⟨ay,bF,rfl,h1,_,ak⟩:=h;obtain⟨v,af,e⟩:=List.mem_filterMap.1 V;rcases List.mem_cons.1 af with rfl|af
  ·exact h1.at e
  ·exact ak.at (List.mem_filterMap.2 ⟨v,af,e⟩)
section turn
variable {G:cq}{cx:eO}{I:bw}{β:Nat→Value}{σ:Y}{w:World}
theorem bS.turn(h:bS G cx I β σ w){σ2:Y}{aS:bw}{β':Nat→Value}{w':World}{b d:Nat}(hk:gn w w' b)(aB:Place cx b)(sb:∀x,x≠d→σ2.get x=σ.get x)
  (nA:∀x,x≠d→(σ.get x).isSome→b∉dA (β x)) (hle:b7 I aS) (gR:∀aN,aN≠b→∀o,aS aN o=I aN o) (yt:∀(o:Nat) v,aS b o=some v→w'.cell? ⟨b,o,none⟩=some v)
  (xT:aS b none=none) (k2:∀x,x≠d→β' x=β x) (ah1:d∉G.ids∨β' d=β d) (cb:g0 β β') (eT:bV (β' d)=some b∨dA (β' d)=[]) (aj:∀o,σ2.get d=some o→aU cx aS β' w' d o):bS G cx aS β' σ2 w' where
 good:=λaN o v af=>by
  by_cases V:aN=b
  ·subst V;exact yt o v af
  ·rw[gR aN V]at af;have h1:=h.good aN o v af;have bQ:aN<w.heap.size:=by
    have:=World.block_lt_of_cell? w _ h1;exact this
   rw[World.cell?_of_block (w:=w) (hk.block aN V bQ)];exact h1
 h9:=λaN v af=>by
  by_cases V:aN=b
  ·subst V;rw[xT]at af;cases af
  ·rw[gR aN V]at af;obtain⟨es,clock,h1,D⟩:=h.h9 aN v af;exact⟨es,clock,by rw[hk.block aN V (gV h1)];exact h1,D⟩
 ja:=h.ja.trans hle
 iL:=λaN V aT o=>by
  have:aN≠b:=λe=>by
   subst e;rcases aB with q|q
   ·omega
   ·exact aT q
  rw[gR aN this];exact h.iL aN V aT o
 frame:=λaN V aT=>by
  have:aN≠b:=λe=>by
   subst e;rcases aB with q|q
   ·omega
   ·exact aT q
  rw[hk.block aN this (by have:=h.size;omega)];exact h.frame aN V aT
 size:=Nat.le_trans h.size hk.size
 tape:=hk.tape.trans h.tape
 os:=hk.os.trans h.os
 output:=hk.output.trans h.output
 drawn:=Nat.le_trans h.drawn hk.drawn
 cB:=λx o u=>by
  by_cases mZ:x=d
  ·subst mZ;exact aj o u
  ·rw[sb x mZ]at u;exact(h.cB x o u).keep hk (k2 x mZ) (nA x mZ (by rw[u];rfl)) hle gR cb
 dn:=λx y u ah ct aN=>by
  by_cases mZ:x=d
  ·subst mZ;rw[sb y (Ne.symm ct)]at ah;rw[k2 y (Ne.symm ct)];intro e cw;rcases eT with q|q
   ·have:=C0 q e;subst this;exact nA y (Ne.symm ct) ah cw
   ·rw[q]at e;cases e
  ·rw[sb x mZ]at u;rw[k2 x mZ];by_cases xW:y=d
   ·subst xW;intro e cw;rcases eT with q|q
    ·have:=C0 q cw;subst this;exact nA x mZ u e
    ·rw[q]at cw;cases cw
   ·rw[sb y xW]at ah;rw[k2 y xW];exact h.dn x y u ah ct aN
 keep:=λx u=>by
  by_cases mZ:x=d
  ·subst mZ;rcases ah1 with q|q
   ·exact absurd u q
   ·rw[q];exact h.keep x u
  ·rw[k2 x mZ];exact h.keep x u
theorem bS.MQ(h:bS G cx I β σ w){x:Nat}{o:cn}(u:σ.get x=some o){b:Nat}(xK:b∈dA (β x)):b<w.heap.size∧Place cx b:=by
 have aj:=h.cB x o u;by_cases kf:∃cR,o=.cS cR
 ·obtain⟨cR,rfl⟩:=kf;simp only[aU]at aj;rcases aj with q|⟨W,an,au⟩
  ·rw[q]at xK;cases xK
  ·rw[an]at xK;exact au.at xK
 have V:bV (β x)=some b:=by
  cases af:β x with
  |tuple vs=>
   exfalso;cases o<;>simp only[aU,af]at aj<;>first|exact kf ⟨_,rfl⟩|(simp at aj)
  |_=>rw[af]at xK;simpa [dA]using xK
 clear xK;cases o with
 |cS cR=>exact absurd ⟨cR,rfl⟩ kf
 |gZ T xs t=>
  simp only[aU]at aj;rcases aj with q|⟨aN,aF,arr,an,_,_,aG,_,_,_,_,_,_,e3⟩
  ·rw[q]at V;simp[bV]at V
  ·rw[an]at V;simp[bV]at V;subst V;exact⟨gV aG,e3⟩
 |vec T xs=>
  simp only[aU]at aj;rcases aj with q|⟨aN,arr,an,au,_,_,bb⟩
  ·rw[q]at V;simp[bV]at V
  ·rw[an]at V;simp[bV]at V;subst V;exact⟨gV au,bb⟩
 |ig es clock bx seen=>
  simp only[aU]at aj;rcases aj with q|⟨r,fh,an,au,_,_,_,_,bY⟩
  ·rw[q]at V;simp[bV]at V
  ·rw[an]at V;simp[bV]at V;subst V;exact⟨gV au,bY⟩
 |fV T e n dL=>
  simp only[aU]at aj;rcases aj with q|⟨aN,aF,arr,W,an,_,_,aG,_,_,_,_,_,ec⟩
  ·rw[q]at V;simp[bV]at V
  ·rw[an]at V;simp[bV]at V;subst V;exact⟨gV aG,ec⟩
 |iX K E e jr dL fx=>
  simp only[aU]at aj;rcases aj with q|⟨r,es,clock,W,as,an,au,_,_,_,_,bY,_⟩
  ·rw[q]at V;simp[bV]at V
  ·rw[an]at V;simp[bV]at V;subst V;exact⟨gV au,bY⟩
 |cells T cs=>
  simp only[aU]at aj;rcases aj with q|⟨aN,arr,an,au,_,_,bb⟩
  ·rw[q]at V;simp[bV]at V
  ·rw[an]at V;simp[bV]at V;subst V;exact⟨gV au,bb⟩
 |slice T sz xs k cU=>
  simp only[aU]at aj;rcases aj with q|⟨q,_⟩|⟨aN,aF,arr,an,_,_,aG,_,_,_,_,_,_,e3⟩
  ·rw[q]at V;simp[bV]at V
  ·rw[q]at V;simp[bV]at V
  ·rw[an]at V;simp[bV]at V;subst V;exact⟨gV aG,e3⟩
 |win T sz xs=>
  simp only[aU]at aj;rcases aj with q|⟨q,_⟩|⟨aN,g4,aF,arr,an,_,_,aG,_,_,_,_,di⟩
  ·rw[q]at V;simp[bV]at V
  ·rw[q]at V;simp[bV]at V
  ·rw[an]at V;simp[bV]at V;subst V;exact⟨gV aG,di⟩
 |map K E bx=>
  simp only[aU]at aj;rcases aj with q|⟨r,es,clock,an,au,_,_,bb,_⟩
  ·rw[q]at V;simp[bV]at V
  ·rw[an]at V;simp[bV]at V;subst V;exact⟨gV au,bb⟩
 |k4 K E bx=>
  simp only[aU]at aj;rcases aj with q|⟨r,es,clock,an,au,_,bb,_⟩
  ·rw[q]at V;simp[bV]at V
  ·rw[an]at V;simp[bV]at V;subst V
   obtain⟨_,_,h1,_⟩:=h.h9 _ _ au;exact⟨gV h1,bb⟩
 |gj es clock K E bx=>
  simp only[aU]at aj;rcases aj with q|⟨r,an,au,_,_,bb,_⟩
  ·rw[q]at V;simp[bV]at V
  ·rw[an]at V;simp[bV]at V;subst V;exact⟨gV au,bb⟩
 |iter cT pM kI seen=>
  simp only[aU]at aj;rcases aj with q|⟨r,fh,an,_,aK,_,bb⟩
  ·rw[q]at V;simp[bV]at V
  ·rw[an]at V;simp[bV]at V;subst V;exact⟨gV aK,bb⟩
 |hdr cT n=>
  simp only[aU]at aj;rw[aj.1]at V;simp[bV]at V
theorem bS.qa(h:bS G cx I β σ w){x:Nat}{o:cn}(u:σ.get x=some o){b:Nat}(V:b∈dA (β x)):b<w.heap.size:=(h.MQ u V).1
theorem bS.ic(h:bS G cx I β σ w){b:Nat}(V:w.heap.size≤b)(o:Option Nat):I b o=none:=by
 cases af:I b o with
 |none=>rfl
 |some v=>
  cases o with
  |none=>
   obtain⟨es,clock,h1,_⟩:=h.h9 b v af;have:=gV h1;omega
  |some o=>
   have:=World.block_lt_of_cell? w _ (h.good b o v af);simp at this;omega
theorem bS.Wp(h:bS G cx I β σ w){b:Nat}{o:Obj}(V:w.heap[b]?=some o)(aT:∀es c,o≠.map es c):I b none=none:=by
 cases af:I b none with
 |none=>rfl
 |some v=>
  obtain⟨es,clock,h1,_⟩:=h.h9 b v af;rw[V]at h1;cases h1
  exact absurd rfl (aT es clock)
theorem bS.rV(h:bS G cx I β σ w){b:Nat}{arr:Array Value}{T:TypeId}{cU:Nat×Nat}(V:w.heap[b]?=some (.cells arr T cU)):I b none=none:=h.Wp V λ_ _=>by simp
theorem gn.alloc(w:World)(o:Obj):gn w (w.alloc o) w.heap.size:=
 ⟨λk _ bQ=>heap_alloc_old w o k bQ,by simp,rfl,rfl,rfl,Nat.le_refl _⟩
theorem gn.setRow(w:World)(g:Nat)(cs:Array Value):gn w (w.setRow g cs) g:=
 ⟨λk hk _=>setRow_other w g k cs hk,by simp,rfl,rfl,rfl,Nat.le_refl _⟩
theorem gn.drew{w w':World}{b:Nat}(h:gn w.drew w' b):gn w w' b:=⟨h.block,h.size,h.tape,h.os,h.output,Nat.le_trans (Nat.le_succ _) h.drawn⟩
def g9(β:Nat→Value)(d:Nat)(v:Value):Nat→Value:=λx=>if x=d then v else β x
theorem g7(β:Nat→Value)(d:Nat)(v:Value):g9 β d v d=v:=by simp[g9]
theorem gU(β:Nat→Value){d x:Nat}(v:Value)(h:x≠d):g9 β d v x=β x:=by simp[g9,h]
theorem g0.w6{β:Nat→Value}{d:Nat}{v:Value}(h:β d=.nilFunc):g0 β (g9 β d v):=λx=>by
 by_cases u:x=d
 ·subst u;exact .inl h
 ·exact .inr (gU β v u)
theorem bS.real(h:bS G cx I β σ w){d:Nat}(Z:d∉G.ids)(aT:β d=.nilFunc){o:Obj}{v:Value}(af:bV v=some w.heap.size)(aj:∀aI,σ.get d=some aI→aU cx I (g9 β d v) (w.alloc o) d aI):
  bS G cx I (g9 β d v) σ (w.alloc o):=
 h.turn (gn.alloc w o) (.inl h.size) (λ_ _=>rfl) (λx u W e=>by
   obtain⟨aI,W⟩:=Option.isSome_iff_exists.1 W;exact absurd (h.qa W e) (by omega)) (b7.refl I) (λ_ _ _=>rfl) (λg4 dI lD=>by rw[h.ic (Nat.le_refl _)]at lD;cases lD) (h.ic (Nat.le_refl _) none)
  (λx u=>gU β v u) (.inl Z) (g0.w6 aT) (.inl (by rw[g7];exact af)) aj
theorem bS.lay(h:bS G cx I β σ w)(vs:Array Value)(E:TypeId):∃aS,b7 I aS∧(∀(o:Nat) v,vs[o]?=some v→aS w.heap.size o=some v)∧bS G cx aS β σ (w.alloc (.cells vs E)):=by
  let aS:bw:=I.on λb o=>if b=w.heap.size then vs[o]? else I b o
  have hle:b7 I aS:=λb o v af=>by
    cases o with
    |none=>exact af
    |some o=>
    show(if b=w.heap.size then vs[o]? else I b o)=some v;split
    · rename_i e;subst e;rw[h.ic (Nat.le_refl _)]at af;cases af
    · exact af
  refine⟨aS,hle,λo v af=>by show(if _ then _ else _)=_;rw[if_pos rfl];exact af,?_⟩;have xP:∃d,σ.get d=none:=by
    have:∀(l:Y),∃n,∀m,n≤m→l.get m=none:=by
      intro l;induction l with
      |nil=>exact⟨0,λ_ _=>rfl⟩
      |cons x r bD=>
        obtain⟨n,aT⟩:=bD;obtain⟨k,v⟩:=x;exact⟨max n (k+1),λm hm=>by rw[Y.c4,if_neg (by omega)];exact aT m (by omega)⟩
    obtain⟨n,aT⟩:=this σ;exact⟨n,aT n (Nat.le_refl n)⟩
  obtain⟨d,Z⟩:=xP
  refine{good:=λaN o v af=>?_,h9:=λaN v af=>?_,ja:=h.ja.trans hle,iL:=λaN V aT o=>?_,frame:=λaN V aT=>?_,size:=Nat.le_trans h.size (by simp),tape:=h.tape,os:=h.os,output:=h.output,drawn:=h.drawn,
         cB:=λx o u=>?_,dn:=h.dn,keep:=h.keep}
  · change (if aN=w.heap.size then vs[o]? else I aN o)=some v at af
    split at af
    · rename_i e;subst e
      rw[World.cell?_alloc_new];exact af
    · have h1:=h.good aN o v af
      have bQ:=World.block_lt_of_cell? w _ h1;rw[World.cell?_alloc_lt w _ _ bQ];exact h1
  · obtain⟨es,clock,h1,D⟩:=h.h9 aN v af
    exact⟨es,clock,by rw[heap_alloc_old w _ aN (gV h1)];exact h1,D⟩
  · have:aN≠w.heap.size:=by have:=h.size;omega
    cases o with
    |none=>exact h.iL aN V aT none
    |some o=>
    show(if aN=w.heap.size then vs[o]? else I aN o)=_;rw[if_neg this];exact h.iL aN V aT o
  · rw[heap_alloc_old w _ aN (by have:=h.size;omega)]
    exact h.frame aN V aT
  · refine(h.cB x o u).keep (b:=w.heap.size) (gn.alloc w _) rfl (λe=>absurd (h.qa u e) (by omega)) hle (λaN V o=>?_) (g0.refl β)
    cases o with
    |none=>rfl
    |some o=>
    show(if aN=w.heap.size then vs[o]? else I aN o)=_;rw[if_neg V]
end turn
def nW:U→List U
 |.agg cs=>cs
 |a=>[a]
def mO.one:mO→Bool
 |.row _=>false
 |_=>true
def U.one:U→Bool
 |.int _ _=>true|.bool _=>true|.str _=>true|.aX _ _=>true|.fP _=>true|.fn _ _=>true|.cV=>true|.mm=>true|.own _=>true|.ptr _ _=>true|.dm _=>true|.gp _ _=>true|.kD=>true|.fm k _=>k.one|.de _=>true
 |_=>false
theorem U.L5{I:bw}{β:Nat→Value}{a:U}{v:Value}(h:a.one=true)(ax:ar I β a v):v.oneCell'=true∧v.cells=#[v]:=by
 cases a<;>simp only[U.one]at h<;>first|cases h|skip
 all_goals simp only[ar,aO]at ax
 all_goals first
  |(subst ax;exact⟨rfl,rfl⟩)
  |(obtain⟨_,_,rfl,_⟩:=ax;exact⟨rfl,rfl⟩)
  |(obtain⟨_,_,_,rfl,_⟩:=ax;exact⟨rfl,rfl⟩)
  |(obtain⟨_,rfl,_⟩:=ax;exact⟨rfl,rfl⟩)
  |(rename_i k d;cases k<;>simp only[mO.one]at h<;>first|cases h|skip
    all_goals simp only[mO.rep]at ax
    all_goals first|(obtain⟨b,V,rfl⟩:=ax;exact⟨rfl,rfl⟩)|(obtain⟨_,_,_,_,_,_,rfl⟩:=ax;exact⟨rfl,rfl⟩))
  |(obtain⟨_,_,rfl⟩:=ax;exact⟨rfl,rfl⟩)
  |(obtain⟨rfl,D⟩:=ax
    rename_i d;cases V:β d<;>rw[V]at D<;>first|(simp[iy]at D;done)|(simp[k3]at D;done)|exact⟨rfl,rfl⟩)
def U.flat:U→Bool
 |.agg cs=>cs.all U.one
 |a=>a.one
theorem L6{I:bw}{β:Nat→Value}:∀(cs:List U) (vs:List Value),cs.all U.one=true→bO I β cs vs→∀v∈vs,v.oneCell'=true
 |[],vs,_,h=>by simp only[bO]at h;subst h;simp
 |x::r,vs,aa,h=>by
  simp only[bO]at h;simp only[List.all_cons,Bool.and_eq_true]at aa;obtain⟨ay,bF,rfl,h1,D⟩:=h;intro v af;rcases List.mem_cons.1 af with rfl|af
  ·exact(U.L5 aa.1 h1).1
  ·exact L6 r bF aa.2 D v af
theorem U.CX{I:bw}{β:Nat→Value}{a:U}{v:Value}(h:a.flat=true)(ax:ar I β a v):bO I β (nW a) v.cells.toList∧∀ay∈v.cells.toList,ay.oneCell'=true:=by
 by_cases aC:∃cs,a=.agg cs
 ·obtain⟨cs,rfl⟩:=aC;simp only[ar]at ax;obtain⟨vs,rfl,ax⟩:=ax;simp only[U.flat]at h;exact⟨ax,L6 cs _ h ax⟩
 ·have h1:a.one=true:=by cases a<;>first|exact h|exact absurd ⟨_,rfl⟩ aC
  have D:nW a=[a]:=by cases a<;>first|rfl|exact absurd ⟨_,rfl⟩ aC
  obtain⟨ak,bc⟩:=U.L5 h1 ax;rw[D,bc];exact⟨⟨v,[],rfl,ax,rfl⟩,by simpa using ak⟩
section ops
variable {G:cq}{o:Oper}{ev:Operand→U}{σ:Y}
theorem bG.alloc{T d:Nat}{zs:List Value}(h:o.op=.alloc T)(hz:∀w,∃z,(zeroValue T).run G.P w=.ok z w∧z.cells=zs.toArray)(hi:G.ids.contains d=false):
  Yields G o ev ((d,.cells T (qe zs))::σ) [d] [d] (.ptr d 0):=by
 intro az cx I β w aP b2 aq hm hop;obtain⟨z,i6,iR⟩:=hz w;have eX:(execOp aP o).run G.P w=.ok (.value (.pointer (some ⟨w.heap.size,0,none⟩))) (w.alloc (.cells zs.toArray T)):=by
  simp[execOp,h,Instr.alloc,i6,newVar,newRow,iR]
 rw[eX];have k2:=hm d (by simp);refine⟨I,g9 β d (.pointer (some ⟨w.heap.size,0,none⟩)),by simp only[ar];exact⟨w.heap.size,by rw[g7];rfl,rfl⟩,?_,b7.refl I,λx u=>gU β _ (λe=>u (by simp[e]))⟩;refine aq.real (by simpa using hi) k2 rfl λaI b3=>?_;rw[b2 d (by simp),Y.c4,if_pos rfl]at b3;injection b3 with b3
 subst b3;simp only[aU,g7];exact .inr ⟨w.heap.size,zs.toArray,rfl,heap_alloc_new w _,by simpa using F7 I _ zs,λo=>aq.ic (Nat.le_refl _) o,.inl aq.size⟩
theorem bG.box{T d:Nat}{x:Operand}{a:U}{cs:List U}(h:o.op=.box T x)(u:ev x=a)(be:a.flat=true)(aa:nW a=cs)(ax:a.refs (Nat.beq d)=false)(hi:G.ids.contains d=false):
  Yields G o ev ((d,.cells T cs)::σ) [d] [d] (.ptr d 0):=by
 intro az cx I β w aP b2 aq hm hop;have cI:=hop x (by simp[h,Op.operands]);rw[u]at cI;have eX:(execOp aP o).run G.P w=.ok (.value (.pointer (some ⟨w.heap.size,0,none⟩))) (w.alloc (.cells (aP x).cells T)):=by
  simp[execOp,h,Instr.box,newVar,newRow]
 rw[eX];have k2:=hm d (by simp);refine⟨I,g9 β d (.pointer (some ⟨w.heap.size,0,none⟩)),by simp only[ar];exact⟨w.heap.size,by rw[g7];rfl,rfl⟩,?_,b7.refl I,λx u=>gU β _ (λe=>u (by simp[e]))⟩;refine aq.real (by simpa using hi) k2 rfl λaI b3=>?_;rw[b2 d (by simp),Y.c4,if_pos rfl]at b3;injection b3 with b3
 subst b3;simp only[aU,g7];refine .inr ⟨w.heap.size,(aP x).cells,rfl,heap_alloc_new w _,?_,λo=>aq.ic (Nat.le_refl _) o,.inl aq.size⟩;have:=(U.CX be cI).1;rw[aa]at this;exact rT (b7.refl I) (g0.w6 k2) _ _ this
structure j0(P:Program)(T:TypeId)(zs:List Value)(fe:List (Nat×Nat)):Prop where
 run:∀(parts:Array (Nat×Value)) (cells:Array Value) w,Instr.fill (λi=>fe[i]?) zs.toArray parts.toList=some cells→(Instr.build T parts).run P w=.ok (.agg cells) w
theorem mq{P:Program}{T:TypeId}{kO:Array Field}{zs:List Value}{fe:List (Nat×Nat)}(hz:∀w,(zeroValue T).run P w=.ok (.agg zs.toArray) w)(hu:P.underlying T=some (.struct kO))
  (aB:∀w,(kO.mapM λf=>do pure (f.offset,←sizeOf f.type):Sem (Array (Nat×Nat))).run P w=.ok fe.toArray w):j0 P T zs fe where
 run:=λparts cells w h=>by
  have dc:Instr.fill (fe.toArray[·]?) zs.toArray parts.toList=some cells:=by
   rw[←h];congr 1;funext i;simp
  unfold Instr.build;simp only[Sem.run_bind,hz,Result.andThen_ok,run_underlying hu,aB,Value.cells];simp only[dc];rfl
def iw{α:Type}(L:List α)(off:Nat)(cs:List α):List α:=L.take off++cs++L.drop (off+cs.length)
def wD(fe:List (Nat×Nat))(cells:List U):List (Nat×U)→Option (List U)
 |[]=>some cells
 |(i,a)::hy=>match fe[i]? with
  |none=>none
  |some (off,size)=>bif Nat.beq (nW a).length size&&Nat.ble (off+(nW a).length) cells.length&&a.flat then wD fe (iw cells off (nW a)) hy else none
theorem Us(cs:List Value):∀(k off:Nat) (L:Array Value),off+k+cs.length≤L.size→((cs.zipIdx k).foldl (λ(xg:Array Value) (x:Value×Nat)=>xg.setIfInBounds (off+x.2) x.1) L).toList=L.toList.take (off+k)++cs++L.toList.drop (off+k+cs.length):=by
 induction cs with
 |nil=>intro k off L h;simp
 |cons c r bD=>
  intro k off L h;simp only[List.zipIdx_cons,List.foldl_cons];have:=bD (k+1) off (L.setIfInBounds (off+k) c) (by simp at h ⊢;omega);rw[this];have e:=list_seg_step L.toList (off+k) c r (by simp at h ⊢;omega);simpa [Array.toList_setIfInBounds,Nat.add_assoc]using e
theorem pQ{I:bw}{β:Nat→Value}:∀(xs bu:List U) (bF vs:List Value),bO I β xs bF→bO I β bu vs→bO I β (xs++bu) (bF++vs)
 |[],bu,bF,vs,h,dc=>by simp only[bO]at h;subst h;simpa using dc
 |x::r,bu,bF,vs,h,dc=>by
  simp only[bO]at h;obtain⟨ay,tQ,rfl,h1,D⟩:=h;simp only[List.cons_append,bO];exact⟨ay,tQ++vs,rfl,h1,pQ r bu tQ vs D dc⟩
theorem Ux{I:bw}{β:Nat→Value}(fe:List (Nat×Nat)):∀(parts:List (Nat×U)) (fR:List (Nat×Value)) (cells:List U) (L:Array Value) (out:List U),bO I β cells L.toList→
  (parts.length=fR.length∧∀(j:Nat) (p:Nat×U) (q:Nat×Value),parts[j]?=some p→fR[j]?=some q→p.1=q.1∧ar I β p.2 q.2)→wD fe cells parts=some out→∃r,Instr.fill (λi=>fe[i]?) L fR=some r∧bO I β out r.toList
 |[],fR,cells,L,out,h,af,be=>by
  have:fR=[]:=List.eq_nil_of_length_eq_zero af.1.symm;subst this;simp only[wD,Option.some.injEq]at be;subst be;exact⟨L,rfl,h⟩
 |(i,a)::hy,fR,cells,L,out,h,af,be=>by
  cases fR with
  |nil=>simp at af
  |cons q vs=>
   obtain⟨E5,v⟩:=q;have bJ:=af.2 0 _ _ rfl rfl;simp only at bJ;obtain⟨rfl,jg⟩:=bJ;simp only[wD]at be;cases aB:fe[i]? with
   |none=>rw[aB]at be;cases be
   |some os=>
    obtain⟨off,size⟩:=os;rw[aB]at be;simp only at be;cases aa:(Nat.beq (nW a).length size&&Nat.ble (off+(nW a).length) cells.length&&a.flat)with
    |false=>rw[aa]at be;simp at be
    |true=>
     rw[aa]at be;simp only[cond_true]at be;simp only[Bool.and_eq_true,Nat.beq_eq,Nat.ble_eq]at aa;obtain⟨⟨bk,bZ⟩,c1⟩:=aa;obtain⟨d1,d2⟩:=U.CX c1 jg;have dl:=qN _ _ d1;have aip:=qN _ _ h;simp only[Array.length_toList]at dl aip;simp only[Instr.fill,aB];rw[if_neg (show ¬((decide (v.cells.size≠size)||decide (off+v.cells.size>L.size))=true)from by simp;omega)];refine Ux fe hy vs _ _ out ?_ ⟨by simpa using af.1,λj p q aM bR=>af.2 (j+1) p q (by simpa using aM) (by simpa using bR)⟩ be;have e:=Us v.cells.toList 0 off L (by simp;omega)
     have e2:(v.cells.zipIdx.foldl (λcs (x:Value×Nat)=>cs.setIfInBounds (off+x.2) x.1) L)=((v.cells.toList.zipIdx 0).foldl (λ(xg:Array Value) (x:Value×Nat)=>xg.setIfInBounds (off+x.2) x.1) L):=by
      rw[←Array.foldl_toList,Array.toList_zipIdx]
     rw[e2,e];simp only[Nat.add_zero,iw];refine pQ _ _ _ _ (pQ _ _ _ _ (zM _ _ _ h) d1) ?_;have:=zL (off+(nW a).length) _ _ h;have kg:v.cells.toList.length=(nW a).length:=by simpa using dl
     rw[kg];exact this
theorem bG.build{T:TypeId}{parts:Array (Nat×Operand)}{zs:List Value}{fe:List (Nat×Nat)}{cs:List U}(h:o.op=.build T parts)(aH:j0 G.P T zs fe)
  (be:wD fe (qe zs) (parts.toList.map λp=>(p.1,ev p.2))=some cs):Yields G o ev σ [] [] (.agg cs):=
 .pure λaz cx I β w aP b2 aq hop=>by
  have h1:∀p∈parts.toList,ar I β (ev p.2) (aP p.2):=λp aB=>hop p.2 (by simp only[h,Op.operands];simpa using ⟨p.1,by simpa using aB⟩)
  obtain⟨r,D,ak⟩:=Ux fe (parts.toList.map λp=>(p.1,ev p.2)) (parts.toList.map λp=>(p.1,aP p.2)) (qe zs) zs.toArray cs (by simpa using F7 I β zs)
   ⟨by simp,λj p q aM bR=>by
    simp only[List.getElem?_map]at aM bR;cases u:parts.toList[j]? with
    |none=>rw[u]at aM;cases aM
    |some y=>
     rw[u]at aM bR;simp only[Option.map_some,Option.some.injEq]at aM bR;subst aM bR;exact⟨rfl,h1 y (List.mem_of_getElem? u)⟩⟩ be
  refine⟨.agg r,?_,by simp only[ar];exact⟨r,rfl,ak⟩⟩;have:(Instr.build T (parts.map λ(i,x)=>(i,aP x))).run G.P w=.ok (.agg r) w:=aH.run _ r w (by simpa using D);simp[execOp,h,this]
structure ku(P:Program)(T E sz:Nat)(zs:List Value):Prop where
 gv:P.underlying T=some (.slice E)
 size:∀w,(sizeOf E).run P w=.ok sz w
 zero:∀w,∃z,(zeroValue E).run P w=.ok z w∧z.cells=zs.toArray
 al3:zs.length=sz
theorem vS{sz:Nat}:∀(xs:List (List U)),(∀e∈xs,e.length=sz)→xs.flatten.length=xs.length*sz
 |[],_=>by simp
 |e::r,h=>by
  simp only[List.flatten_cons,List.length_append,List.length_cons,h e (by simp),vS r (λx u=>h x (by simp[u]))];rw[Nat.add_mul];omega
def tf(sz:Nat):Nat→List (Nat×U)→Option (List (List U))
 |_,[]=>some []
 |k,(i,a)::r=>bif Nat.beq i k&&Nat.beq (nW a).length sz&&a.flat then(tf sz (k+1) r).map (nW a::·)else none
theorem FQ{I:bw}{β:Nat→Value}(sz:Nat):∀(parts:List (Nat×U)) (fR:List (Nat×Value)) (k:Nat) (L:Array Value) (out:List (List U)),
  (parts.length=fR.length∧∀(j:Nat) (p:Nat×U) (q:Nat×Value),parts[j]?=some p→fR[j]?=some q→p.1=q.1∧ar I β p.2 q.2)→tf sz k parts=some out→(k+parts.length)*sz≤L.size→
  ∃r bF,Instr.fill (λi=>some (i*sz,sz)) L fR=some r∧r.size=L.size∧r.toList=L.toList.take (k*sz)++bF++L.toList.drop ((k+parts.length)*sz)∧bO I β out.flatten bF∧(∀e∈out,e.length=sz)∧out.length=parts.length
 |[],fR,k,L,out,af,be,_=>by
  have:fR=[]:=List.eq_nil_of_length_eq_zero af.1.symm;subst this;simp only[tf,Option.some.injEq]at be;subst be;exact⟨L,[],rfl,rfl,by simp,by simp[bO],by simp,rfl⟩
 |(i,a)::hy,fR,k,L,out,af,be,jH=>by
  cases fR with
  |nil=>simp at af
  |cons q vs=>
   obtain⟨E5,v⟩:=q;have bJ:=af.2 0 _ _ rfl rfl;simp only at bJ;obtain⟨rfl,jg⟩:=bJ;simp only[tf]at be;cases aa:(Nat.beq i k&&Nat.beq (nW a).length sz&&a.flat)with
   |false=>rw[aa]at be;simp at be
   |true=>
    rw[aa]at be;simp only[cond_true,Option.map_eq_some_iff]at be;obtain⟨aiJ,be,rfl⟩:=be;simp only[Bool.and_eq_true,Nat.beq_eq]at aa;obtain⟨⟨rfl,bk⟩,c1⟩:=aa;obtain⟨d1,d2⟩:=U.CX c1 jg;have dl:=qN _ _ d1;simp only[Array.length_toList]at dl;have uj:i*sz+sz≤L.size:=by
     have:(i+1)*sz≤(i+((i,a)::hy).length)*sz:=Nat.mul_le_mul_right _ (by simp);rw[Nat.add_mul,Nat.one_mul]at this;omega
    have e:=Us v.cells.toList 0 (i*sz) L (by simp;omega)
    have e2:(v.cells.zipIdx.foldl (λcs (x:Value×Nat)=>cs.setIfInBounds (i*sz+x.2) x.1) L)=((v.cells.toList.zipIdx 0).foldl (λ(xg:Array Value) (x:Value×Nat)=>xg.setIfInBounds (i*sz+x.2) x.1) L):=by
     rw[←Array.foldl_toList,Array.toList_zipIdx]
    simp only[Instr.fill];rw[if_neg (show ¬((decide (v.cells.size≠sz)||decide (i*sz+v.cells.size>L.size))=true)from by simp;omega)];rw[e2];generalize anx:((v.cells.toList.zipIdx 0).foldl (λ(xg:Array Value) (x:Value×Nat)=>xg.setIfInBounds (i*sz+x.2) x.1) L)=va at e;have Sx:va.size=L.size:=by
     rw[←Array.length_toList,e];simp;omega
    obtain⟨r,bF,hr,hl,oZ,pK,wL,uS⟩:=FQ sz hy vs (i+1) va aiJ ⟨by simpa using af.1,λj p q aM bR=>af.2 (j+1) p q (by simpa using aM) (by simpa using bR)⟩ be (by rw[Sx];simp at jH;rw[show i+1+hy.length=i+(hy.length+1)from by omega];exact jH);refine⟨r,v.cells.toList++bF,hr,hl.trans Sx,?_,?_,?_,by simp[uS]⟩
    ·rw[oZ,e];have B8:(i+1)*sz=i*sz+sz:=by rw[Nat.add_mul,Nat.one_mul]
     have jt:(L.toList.take (i*sz+0)).length=i*sz:=by simp;omega
     have hQ:(L.toList.take (i*sz+0)++v.cells.toList).length=(i+1)*sz:=by rw[List.length_append,jt,B8];simp;omega
     rw[List.take_append_of_le_length (by rw[hQ];exact Nat.le_refl _),←hQ,List.take_length];have Z:List.drop ((i+1+hy.length)*sz) (L.toList.take (i*sz+0)++v.cells.toList++L.toList.drop (i*sz+0+v.cells.toList.length))=L.toList.drop ((i+((i,a)::hy).length)*sz):=by
      rw[List.drop_append,hQ,List.drop_drop];have:(i+1)*sz≤(i+1+hy.length)*sz:=Nat.mul_le_mul_right _ (by omega);rw[List.drop_of_length_le (by rw[hQ];exact this),List.nil_append];congr 1;simp only[Array.length_toList,List.length_cons];rw[show i+(hy.length+1)=i+1+hy.length from by omega];omega
     rw[Z];simp[List.append_assoc]
    ·simp only[List.flatten_cons];exact pQ _ _ _ _ d1 pK
    ·intro e he;rcases List.mem_cons.1 he with rfl|he
     ·exact bk
     ·exact wL e he
theorem bG.buildSlice{T E sz len:Nat}{parts:Array (Nat×Operand)}{zs:List Value}{xs:List (List U)}(h:o.op=.buildSlice T len parts)(aH:ku G.P T E sz zs)(aJ:parts.size=len)(W:len*sz≤65536∧len≤65536)
  (be:tf sz 0 (parts.toList.map λp=>(p.1,ev p.2))=some xs) (aa:kL xs.flatten=true):Yields G o ev σ [] [] (.aX true xs):=by
 intro az cx I β w aP b2 aq hm hop;have h1:∀p∈parts.toList,ar I β (ev p.2) (aP p.2):=λp aB=>hop p.2 (by simp only[h,Op.operands];simpa using ⟨p.1,by simpa using aB⟩);obtain⟨z,i6,iR⟩:=aH.zero w
 let L:Array Value:=(Array.range (len*sz)).map ((if len*sz=0 then #[]else z.cells)[·%(if len*sz=0 then #[]else z.cells:Array Value).size]!)
 have vz:L.size=len*sz:=by simp[L]
 obtain⟨r,bF,hr,hl,oZ,pK,wL,uS⟩:=FQ (I:=I) (β:=β) sz (parts.toList.map λp=>(p.1,ev p.2)) (parts.toList.map λp=>(p.1,aP p.2)) 0 L xs
  ⟨by simp,λj p q aM bR=>by
   simp only[List.getElem?_map]at aM bR;cases u:parts.toList[j]? with
   |none=>rw[u]at aM;cases aM
   |some y=>
    rw[u]at aM bR;simp only[Option.map_some,Option.some.injEq]at aM bR;subst aM bR;exact⟨rfl,h1 y (List.mem_of_getElem? u)⟩⟩ be (by simp[vz,aJ])
 have zA:r.toList=bF:=by
  rw[oZ];have e0:L.toList.drop ((0+(parts.toList.map λp=>(p.1,ev p.2)).length)*sz)=[]:=List.drop_of_length_le (by simp[vz,aJ]);rw[e0];simp
 have n4:xs.length=len:=by rw[uS];simp[aJ]
 have eX:(execOp aP o).run G.P w=.ok (.value (.slice (some ⟨w.heap.size,0,none⟩) len len)) (w.alloc (.cells r E)):=by
  have B5:¬(len*sz>2 ^ 24):=by have:(2:Nat) ^ 24=16777216:=by decide
                               omega
  have nF:Instr.fill (λi=>some (i*sz,sz)) L (parts.map λ(i,x)=>(i,aP x)).toList=some r:=by simpa using hr
  simp only[execOp,h,Instr.buildSlice,Sem.run_bind,run_underlying aH.gv,aH.size,Result.andThen_ok,B5,if_false];by_cases bJ:len*sz=0
  ·have rZ:L=(Array.range (len*sz)).map ((#[]:Array Value)[·%(#[]:Array Value).size]!):=by simp only[L,bJ,if_true]
   rw[rZ]at nF;simp only[bJ,if_true,Sem.run_bind,Sem.run_pure,Result.andThen_ok]at nF ⊢;simp only[nF];simp[newRow]
  ·have rZ:L=(Array.range (len*sz)).map (z.cells[·%z.cells.size]!):=by simp only[L,bJ,if_false]
   rw[rZ]at nF;simp only[bJ,if_false,Sem.run_bind,i6,Sem.run_pure,Result.andThen_ok];simp only[nF];simp[newRow]
 rw[eX];obtain⟨aS,hle,kv,eS⟩:=aq.lay r E;refine⟨aS,β,?_,eS,hle,λ_ _=>rfl⟩;simp only[ar,aO];refine⟨_,len,by rw[n4],by omega,?_,λ_=>n4.symm,.inr ⟨w.heap.size,0,rfl,?_⟩⟩
 ·simp only[maxLen];omega
 ·have:=bO.closed _ _ aa pK;rw[←zA]at this;exact x2 xs 0 _ (mC hle _ _ this) λj v af=>by rw[Nat.zero_add];exact kv j v (by simpa using af)
end ops
end
section
def Y.minus(ids:List Nat):Y→Y
 |[]=>[]
 |(d,o)::r=>bif ids.contains d then Y.minus ids r else(d,o)::Y.minus ids r
theorem Y.jW(ids:List Nat):∀(σ:Y) (d:Nat),(Y.minus ids σ).get d=if d∈ids then none else σ.get d
 |[],d=>by simp[Y.minus,Y.get]
 |(k,o)::r,d=>by
  simp only[Y.minus];cases hk:ids.contains k with
  |true=>
   simp only[cond_true,Y.jW ids r d,Y.c4];split
   ·rfl
   ·rename_i Z;rw[if_neg];intro e;subst e;simp at hk;exact Z hk
  |false=>
   simp only[cond_false,Y.c4,Y.jW ids r d];split
   ·rename_i e;subst e;rw[if_neg (by simpa using hk)]
   ·rfl
theorem Y.um:∀(a b:Y) (d:Nat),Y.get (a++b) d=match a.get d with|some o=>some o|none=>b.get d
 |[],b,d=>by simp[Y.get]
 |(k,o)::r,b,d=>by
  simp only[List.cons_append,Y.c4];split
  ·rfl
  ·exact Y.um r b d
theorem Y.Ui:∀{σ:Y} {d:Nat},d∈σ.ids→(σ.get d).isSome
 |[],d,h=>by simp[Y.ids]at h
 |(k,o)::r,d,h=>by
  rw[Y.c4];split
  ·rfl
  ·rename_i hk;simp only[Y.ids,List.map_cons,List.mem_cons]at h;rcases h with h|h
   ·exact absurd h.symm hk
   ·exact Y.Ui (σ:=r) h
def te(β:Nat→Value)(σ:Y):List Nat:=σ.flatMap λp=>dA (β p.1)
theorem KZ{β:Nat→Value}{σ:Y}{b:Nat}:b∈te β σ↔∃p∈σ,b∈dA (β p.1):=by simp[te,List.mem_flatMap]
section after
variable {G:cq}{cx:eO}{I:bw}{β:Nat→Value}{σ:Y}{w:World}
theorem bS.placeOf(h:bS G cx I β σ w){x:Nat}{o:cn}(u:σ.get x=some o){b:Nat}(V:b∈dA (β x)):Place cx b:=(h.MQ u V).2
def mE(I:bw)(β:Nat→Value)(dB:Y)(w:World):eO:={B:=w.heap.size,w0:=w,I0:=I,xk:=te β dB,u7:=β}
theorem aU.place{cx nu:eO}{I:bw}{β:Nat→Value}{w:World}{d:Nat}{o:cn}(Ss:∀b∈dA (β d),Place cx b→Place nu b)(h:aU cx I β w d o):aU nu I β w d o:=by
 have aB:∀b,bV (β d)=some b→Place cx b→Place nu b:=λb V=>Ss b (je V);cases o with
 |cS cR=>
  simp only[aU]at h ⊢;rcases h with q|⟨W,an,au⟩
  ·exact .inl q
  ·exact .inr ⟨W,an,au.go (b7.refl I) λaN hf=>⟨λ_=>rfl,λ_=>rfl,Ss aN (by rw[an];exact hf)⟩⟩
 |gZ T xs t=>
  simp only[aU]at h ⊢;rcases h with q|⟨aN,aF,arr,an,au,aK,aG,bb,bC,bY,cK,di,ec,e3⟩
  ·exact .inl q
  ·exact .inr ⟨aN,aF,arr,an,au,aK,aG,bb,bC,bY,cK,di,ec,aB aN (by rw[an];rfl) e3⟩
 |vec T xs=>
  simp only[aU]at h ⊢;rcases h with q|⟨aN,arr,an,au,aK,aG,bb⟩
  ·exact .inl q
  ·exact .inr ⟨aN,arr,an,au,aK,aG,aB aN (by rw[an];rfl) bb⟩
 |ig es clock bx seen=>
  simp only[aU]at h ⊢;rcases h with q|⟨r,fh,an,au,aK,aG,bb,bC,bY⟩
  ·exact .inl q
  ·exact .inr ⟨r,fh,an,au,aK,aG,bb,bC,aB r (by rw[an];rfl) bY⟩
 |fV T e n dL=>
  simp only[aU]at h ⊢;rcases h with q|⟨aN,aF,arr,W,an,au,aK,aG,bb,bC,bY,cK,di,ec⟩
  ·exact .inl q
  ·exact .inr ⟨aN,aF,arr,W,an,au,aK,aG,bb,bC,bY,cK,di,aB aN (by rw[an];rfl) ec⟩
 |iX K E e jr dL fx=>
  simp only[aU]at h ⊢;rcases h with q|⟨r,es,clock,W,as,an,au,aK,aG,bb,bC,bY,cK⟩
  ·exact .inl q
  ·exact .inr ⟨r,es,clock,W,as,an,au,aK,aG,bb,bC,aB r (by rw[an];rfl) bY,cK⟩
 |cells T cs=>
  simp only[aU]at h ⊢;rcases h with q|⟨aN,arr,an,au,aK,aG,bb⟩
  ·exact .inl q
  ·exact .inr ⟨aN,arr,an,au,aK,aG,aB aN (by rw[an];rfl) bb⟩
 |slice T sz xs k cU=>
  simp only[aU]at h ⊢;rcases h with q|q|⟨aN,aF,arr,an,au,aK,aG,bb,bC,bY,cK,di,ec,e3⟩
  ·exact .inl q
  ·exact .inr (.inl q)
  ·exact .inr (.inr ⟨aN,aF,arr,an,au,aK,aG,bb,bC,bY,cK,di,ec,aB aN (by rw[an];rfl) e3⟩)
 |win T sz xs=>
  simp only[aU]at h ⊢;rcases h with q|q|⟨aN,g4,aF,arr,an,au,aK,aG,bb,bC,bY,cK,di⟩
  ·exact .inl q
  ·exact .inr (.inl q)
  ·exact .inr (.inr ⟨aN,g4,aF,arr,an,au,aK,aG,bb,bC,bY,cK,aB aN (by rw[an];rfl) di⟩)
 |map K E bx=>
  simp only[aU]at h ⊢;rcases h with q|⟨r,es,clock,an,au,aK,aG,bb,bC⟩
  ·exact .inl q
  ·exact .inr ⟨r,es,clock,an,au,aK,aG,aB r (by rw[an];rfl) bb,bC⟩
 |k4 K E bx=>
  simp only[aU]at h ⊢;rcases h with q|⟨r,es,clock,an,au,aK,bb,bC⟩
  ·exact .inl q
  ·exact .inr ⟨r,es,clock,an,au,aK,aB r (by rw[an];rfl) bb,bC⟩
 |gj es clock K E bx=>
  simp only[aU]at h ⊢;rcases h with q|⟨r,an,au,aK,aG,bb,bC⟩
  ·exact .inl q
  ·exact .inr ⟨r,an,au,aK,aG,aB r (by rw[an];rfl) bb,bC⟩
 |iter cT pM kI seen=>
  simp only[aU]at h ⊢;rcases h with q|⟨r,fh,an,au,aK,aG,bb⟩
  ·exact .inl q
  ·exact .inr ⟨r,fh,an,au,aK,aG,aB r (by rw[an];rfl) bb⟩
 |hdr cT n=>exact h
theorem bS.w5(h:bS G cx I β σ w){P:Program}{dB:Y}(W:∀p∈dB,σ.get p.1=some p.2):bS ⟨P,0,dB.ids⟩ (mE I β dB w) I β dB w:=by
  have jq:∀d o,dB.get d=some o→σ.get d=some o:=λd o Z=>by
    obtain⟨p,bU,cG,dP⟩:=p8 dB d o Z;rw[←cG,←dP];exact W p bU
  have h1:=h.sub jq
  exact{good:=h1.good,h9:=h1.h9,ja:=b7.refl I,iL:=λ_ _ _ _=>rfl,frame:=λ_ _ _=>rfl,size:=Nat.le_refl _,tape:=rfl,os:=rfl,output:=rfl,drawn:=Nat.le_refl _,
        cB:=λd o Z=>(h1.cB d o Z).place λb V _=>.inr (by
            obtain⟨p,bU,cG,_⟩:=p8 dB d o Z;exact KZ.2 ⟨p,bU,by rw[cG];exact V⟩),
        dn:=h1.dn,keep:=λ_ _=>rfl}
theorem bS.after(h:bS G cx I β σ w){P:Program}{dB:Y}(W:∀p∈dB,σ.get p.1=some p.2){aS:bw}{β':Nat→Value}{σ2:Y}{w':World}
    (dc:bS ⟨P,0,dB.ids⟩ (mE I β dB w) aS β' σ2 w') (news:List Nat) (aT:∀d∈news,d∉G.ids∧σ.get d=none) (hJ:(σ.minus dB.ids).clean news.contains=true)
    (iP:σ2.clean (λd=>!(dB.ids++news).contains d)=true) :
    bS G cx aS (λd=>if d∈news then β' d else β d) (σ2++σ.minus dB.ids) w'∧b7 I aS∧(∀(r:U) v,r.refs (λd=>!(dB.ids++news).contains d)=false→ar aS β' r v→ar aS (λd=>if d∈news then β' d else β d) r v):=by
  have jq:∀d o,dB.get d=some o→σ.get d=some o:=λd o Z=>by
    obtain⟨p,bU,cG,dP⟩:=p8 dB d o Z;rw[←cG,←dP];exact W p bU
  have hle:b7 I aS:=dc.ja
  have hm:∀d,(λd=>!(dB.ids++news).contains d) d=false→(λd=>if d∈news then β' d else β d) d=β' d:=λd Z=>by
    have Z:d∈dB.ids∨d∈news:=by
      have:(dB.ids++news).contains d=true:=by rw[←Bool.not_eq_false'];exact Z
      exact List.mem_append.1 (List.contains_iff_mem.1 this)
    show(if d∈news then β' d else β d)=β' d;split
    · rfl
    · rename_i aT
      rcases Z with Z|Z
      · exact(dc.keep d Z).symm
      · exact absurd Z aT
  have zk:∀b,b∈te β dB→Place cx b:=λb V=>by
    obtain⟨p,bU,cG⟩:=KZ.1 V;exact h.placeOf (W p bU) cG
  have ml:∀b,Place (mE I β dB w) b→Place cx b:=λb V=>by
    rcases V with V|V
    · exact .inl (Nat.le_trans h.size V)
    · exact zk b V
  have Ca:∀b,b<cx.B→b∉cx.xk→b<(mE I β dB w).B∧b∉(mE I β dB w).xk:=λb h1 D=>
    ⟨Nat.lt_of_lt_of_le h1 h.size,λV=>by
      rcases zk b V with q|q
      · omega
      · exact D q⟩
  have hy:∀x o,(σ.minus dB.ids).get x=some o→x∉dB.ids∧σ.get x=some o:=λx o u=>by
    rw[Y.jW]at u;split at u
    · cases u
    · exact⟨by assumption,u⟩
  have NS:∀x o,(σ.minus dB.ids).get x=some o→∀b∈dA (β x),b<(mE I β dB w).B∧b∉(mE I β dB w).xk:=λx o u b V=>by
    obtain⟨h1,D⟩:=hy x o u;refine⟨h.qa D V,λR1=>?_⟩;obtain⟨p,bU,cG⟩:=KZ.1 R1;have ahA:p.1≠x:=λe=>h1 (by rw[←e];exact List.mem_map.2 ⟨p,bU,rfl⟩);exact h.dn p.1 x (by rw[W p bU];rfl) (by rw[D];rfl) ahA b cG V
  have GU:∀x o,(σ.minus dB.ids).get x=some o→(if x∈news then β' x else β x)=β x:=λx o u=>by
    have:x∉news:=λKd=>by
      have:=(aT x Kd).2;rw[(hy x o u).2]at this;cases this
    rw[if_neg this]
  refine⟨{good:=dc.good,h9:=dc.h9,ja:=h.ja.trans hle,iL:=λb h1 D o=>?_,frame:=λb h1 D=>?_,size:=Nat.le_trans h.size dc.size,tape:=dc.tape.trans h.tape,os:=dc.os.trans h.os,output:=dc.output.trans h.output,drawn:=Nat.le_trans h.drawn dc.drawn,
          cB:=λx o u=>?_,dn:=λx y u ah ct b=>?_,keep:=λx u=>?_},hle,λr v ax af=>td hm r v ax af⟩
  · obtain⟨ak,bc⟩:=Ca b h1 D
    exact(dc.iL b ak bc o).trans (h.iL b h1 D o)
  · obtain⟨ak,bc⟩:=Ca b h1 D
    exact(dc.frame b ak bc).trans (h.frame b h1 D)
  · rw[Y.um]at u
    cases D:σ2.get x with
    |some g4=>
      rw[D]at u;cases u;obtain⟨bk,bZ⟩:=Y.iu iP x o D;exact((dc.cB x o D).place (λb _=>ml b)).beta hm bk bZ
    |none=>
      rw[D]at u;simp only at u;obtain⟨hr,hl⟩:=hy x o u;obtain⟨bk,bZ⟩:=Y.iu hJ x o u;have aj:=h.cB x o hl
      have zj:∀d,news.contains d=false→(λd=>if d∈news then β' d else β d) d=β d:=λd Z=>by
        have:d∉news:=by simpa using Z
        show(if d∈news then β' d else β d)=β d;rw[if_neg this]
      refine aU.beta zj bk bZ ?_
      have Qb:∀b∈dA (β x),w'.heap[b]?=w.heap[b]?∧∀o,aS b o=I b o:=λb V=>by
        obtain⟨an,au⟩:=NS x o u b V;exact⟨dc.frame b an au,λo=>dc.iL b an au o⟩
      have b3:∀b,bV (β x)=some b→w'.heap[b]?=w.heap[b]?∧∀o,aS b o=I b o:=λb V=>Qb b (je V);cases o with
      |cS cR=>
        simp only[aU]at aj ⊢;rcases aj with q|⟨W,an,au⟩
        · exact .inl q
        · refine .inr ⟨W,an,au.go hle λaN hf=>?_⟩
          obtain⟨dF,dO⟩:=Qb aN (by rw[an];exact hf);exact⟨λ_=>dF,dO,id⟩
      |gZ T xs t=>
        simp only[aU]at aj ⊢;rcases aj with q|⟨aN,aF,arr,an,au,aK,aG,bb,bC,bY,cK,di,ec,e3⟩
        · exact .inl q
        · obtain⟨dF,dO⟩:=b3 aN (by rw[an];rfl)
          exact .inr ⟨aN,aF,arr,an,au,aK,dF.trans aG,bb,mC hle _ _ bC,bY,cK,di,λo=>(dO o).trans (ec o),e3⟩
      |vec T xs=>
        simp only[aU]at aj ⊢;rcases aj with q|⟨aN,arr,an,au,aK,aG,bb⟩
        · exact .inl q
        · obtain⟨dF,dO⟩:=b3 aN (by rw[an];rfl)
          exact .inr ⟨aN,arr,an,dF.trans au,aK,λo=>(dO o).trans (aG o),bb⟩
      |ig es clock bx seen=>
        simp only[aU]at aj ⊢;rcases aj with q|⟨r,fh,an,au,aK,aG,bb,bC,bY⟩
        · exact .inl q
        · obtain⟨dF,dO⟩:=b3 r (by rw[an];rfl)
          exact .inr ⟨r,fh,an,dF.trans au,hle _ _ _ aK,lP hle _ _ aG,bb,λo=>(dO o).trans (bC o),bY⟩
      |fV T e n dL=>
        simp only[aU]at aj ⊢;rcases aj with q|⟨aN,aF,arr,W,an,au,aK,aG,bb,bC,bY,cK,di,ec⟩
        · exact .inl q
        · obtain⟨dF,dO⟩:=b3 aN (by rw[an];rfl)
          exact .inr ⟨aN,aF,arr,W,an,au,aK,dF.trans aG,bb,bC,bY,cK,λo=>(dO o).trans (di o),ec⟩
      |iX K E e jr dL fx=>
        simp only[aU]at aj ⊢;rcases aj with q|⟨r,es,clock,W,as,an,au,aK,aG,bb,bC,bY,cK⟩
        · exact .inl q
        · obtain⟨dF,dO⟩:=b3 r (by rw[an];rfl)
          exact .inr ⟨r,es,clock,W,as,an,dF.trans au,aK,aG,bb.mono hle,λo=>(dO o).trans (bC o),bY,cK⟩
      |cells T cs=>
        simp only[aU]at aj ⊢;rcases aj with q|⟨aN,arr,an,au,aK,aG,bb⟩
        · exact .inl q
        · obtain⟨dF,dO⟩:=b3 aN (by rw[an];rfl)
          exact .inr ⟨aN,arr,an,dF.trans au,rT hle (g0.refl β) _ _ aK,λo=>(dO o).trans (aG o),bb⟩
      |slice T sz xs k cU=>
        simp only[aU]at aj ⊢;rcases aj with q|q|⟨aN,aF,arr,an,au,aK,aG,bb,bC,bY,cK,di,ec,e3⟩
        · exact .inl q
        · exact .inr (.inl q)
        · obtain⟨dF,dO⟩:=b3 aN (by rw[an];rfl)
          exact .inr (.inr ⟨aN,aF,arr,an,au,aK,dF.trans aG,bb,mC hle _ _ bC,bY,cK,λhz o aj=>(dO o).trans (di hz o aj),λo aj=>(dO o).trans (ec o aj),e3⟩)
      |win T sz xs=>
        simp only[aU]at aj ⊢;rcases aj with q|q|⟨aN,g4,aF,arr,an,au,aK,aG,bb,bC,bY,cK,di⟩
        · exact .inl q
        · exact .inr (.inl q)
        · obtain⟨dF,dO⟩:=b3 aN (by rw[an];rfl)
          exact .inr (.inr ⟨aN,g4,aF,arr,an,au,aK,dF.trans aG,bb,xX hle _ _ _ bC,bY,λhz o aj=>(dO o).trans (cK hz o aj),di⟩)
      |map K E bx=>
        simp only[aU]at aj ⊢;rcases aj with q|⟨r,es,clock,an,au,aK,aG,bb⟩
        · exact .inl q
        · obtain⟨dF,dO⟩:=b3 r (by rw[an];rfl)
          exact .inr ⟨r,es,clock,an,dF.trans au,lP hle _ _ aK,λo=>(dO o).trans (aG o),bb⟩
      |k4 K E bx=>
        simp only[aU]at aj ⊢;rcases aj with q|⟨r,es,clock,an,au,aK,aG,bb⟩
        · exact .inl q
        · exact .inr ⟨r,es,clock,an,hle _ _ _ au,lP hle _ _ aK,aG,bb⟩
      |gj es clock K E bx=>
        simp only[aU]at aj ⊢;rcases aj with q|⟨r,an,au,aK,aG,bb⟩
        · exact .inl q
        · obtain⟨dF,dO⟩:=b3 r (by rw[an];rfl)
          exact .inr ⟨r,an,dF.trans au,lP hle _ _ aK,λo=>(dO o).trans (aG o),bb⟩
      |iter cT pM kI seen=>
        simp only[aU]at aj ⊢;rcases aj with q|⟨r,fh,an,au,aK,aG,bb⟩
        · exact .inl q
        · obtain⟨dF,dO⟩:=b3 r (by rw[an];rfl)
          exact .inr ⟨r,fh,an,au,dF.trans aK,λo=>(dO o).trans (aG o),bb⟩
      |hdr cT n=>exact aj
  ·
    have Em:∀x,(σ2.get x).isSome→(if x∈news then β' x else β x)=β' x:=λx u=>by
      obtain⟨o,u⟩:=Option.isSome_iff_exists.1 u;exact hm x (Y.iu iP x o u).1
    have tM:∀x,(Y.get (σ2++σ.minus dB.ids) x).isSome→(σ2.get x).isSome∨∃o,(σ.minus dB.ids).get x=some o:=λx u=>by
      rw[Y.um]at u;cases D:σ2.get x with
      |some o=>exact .inl rfl
      |none=>rw[D]at u;exact .inr (Option.isSome_iff_exists.1 u)
    have mixed:∀x y,(σ2.get x).isSome→(∃o,(σ.minus dB.ids).get y=some o)→b∈dA (β' x)→b∈dA (β y)→False:=λx y u ⟨o,ah⟩ aA e2=>by
      obtain⟨aoC,u⟩:=Option.isSome_iff_exists.1 u;obtain⟨an,au⟩:=NS y o ah b e2;rcases dc.placeOf u aA with q|q
      · exact absurd q (by omega)
      · exact au q
    show b∈dA (if x∈news then β' x else β x)→b∉dA (if y∈news then β' y else β y);rcases tM x u with h1|⟨gd,h1⟩<;>rcases tM y ah with D|⟨ey,D⟩
    · rw[Em x h1,Em y D]
      exact dc.dn x y h1 D ct b
    · rw[Em x h1,GU y ey D]
      exact λaA e2=>mixed x y h1 ⟨ey,D⟩ aA e2
    · rw[GU x gd h1,Em y D]
      exact λaA e2=>mixed y x D ⟨gd,h1⟩ e2 aA
    · rw[GU x gd h1,GU y ey D]
      exact h.dn x y (by rw[(hy x gd h1).2];rfl) (by rw[(hy y ey D).2];rfl) ct b
  · have:x∉news:=λKd=>(aT x Kd).1 u
    simp only[this,if_false];exact h.keep x u
end after
section ops
variable {G:cq}{o:Oper}{ev:Operand→U}{σ:Y}
theorem v2{I:bw}{β:Nat→Value}(ev:Operand→U)(aP:Operand→Value):∀(xs:List Operand),(∀x∈xs,ar I β (ev x) (aP x))→bO I β (xs.map ev) (xs.map aP)
 |[],_=>by simp[bO]
 |x::r,h=>by
  simp only[List.map_cons,bO];exact⟨aP x,r.map aP,rfl,h x (by simp),v2 ev aP r λy ah=>h y (by simp[ah])⟩
theorem zT{P:Program}{o:Oper}{gH:Operand}{args:Array Operand}{k:Array TypeId}{aP:Operand→Value}{f:FuncId}{vs:Array Value}{w:World}(h:o.op=.call ⟨.value gH,args,k⟩)(be:aP gH=.func (.func f) #[] vs)
  (nG:∀(args:Array Value) (w:World),(callFunc f args).run P w=.ok (.enter f args) w):(execOp aP o).run P w=.ok (.enter f ((args.toList.map aP++vs.toList).toArray)) w:=by
 simp[execOp,h,resolve,be,Deferred.ofValue,invoke,nG]
theorem bG.call{gH:Operand}{args:Array Operand}{k:Array TypeId}{f:FuncId}{aF cO:List U}{σs dB:Y}{r:U}(h:o.op=.call ⟨.value gH,args,k⟩)(be:ev gH=.fn f aF)
  (nG:∀(args:Array Value) (w:World),(callFunc f args).run G.P w=.ok (.enter f args) w) (W:∀p∈σs,σ.get p.1=some p.2) (aC:jD σs (args.toList.map ev++aF) cO) (aa:∀p∈dB,σs.get p.1=some p.2)
  (cE:ef G.P f dB cO r) (ax:r.closed=true) (o7:dB.clean (λd=>!(dB.ids++[]).contains d)=true):Yields G o ev σ [] σs.ids r:=by
 intro az cx I β w aP b2 aq _ hop;have iO:=hop gH (by simp[h,Op.operands,Call.operands]);rw[be]at iO;simp only[ar]at iO;obtain⟨vs,iO,mF⟩:=iO;rw[zT h iO nG]
 have jq:∀d o,σs.get d=some o→az.get d=some o:=λd o Z=>by
  obtain⟨p,bU,cG,dP⟩:=p8 σs d o Z;rw[b2 d (by rw[←cG];exact List.mem_map.2 ⟨p,bU,rfl⟩),←cG,←dP];exact W p bU
 have vQ:=aq.sub jq;have lB:=pQ _ _ _ _ (v2 ev aP args.toList λx u=>hop x (by simp only[h,Op.operands,Call.operands];simp;right;simpa using u)) mF;have sn:=aC.rep vQ _ lB;have J7:∀p∈dB,az.get p.1=some p.2:=λp aB=>jq _ _ (aa p aB);have fA:=aq.w5 (P:=G.P) J7;refine Calls.mono (cE _ w I β _ fA sn) ?_;rintro e w' ⟨v,he,r',σ2,aS,β',⟨oE,jR⟩,jg,eS⟩;subst oE jR;obtain⟨h1,D,ak⟩:=aq.after J7 eS [] (by simp) (Y.pR _) o7;refine⟨v,he,aS,β,?_,?_,D,λ_ _=>rfl⟩
 ·exact aO.rep β _ _ (ar.closed r' v ax jg)
 ·refine({h1 with}:bS G cx aS β (σ2++az.minus σ2.ids) w').sub λd o Z=>?_;rw[Y.um,Y.jW];cases D:σ2.get d with
  |some g4=>
   obtain⟨p,bU,cG,dP⟩:=p8 σ2 d g4 D;have:=J7 p bU;rw[cG,dP,Z]at this;simpa using this.symm
  |none=>
   have:d∉σ2.ids:=λhm=>by have:=Y.Ui hm;rw[D]at this;cases this
   simp[this,Z]
theorem en.call{gH:Operand}{args:Array Operand}{k:Array TypeId}{f:FuncId}{aF cO:List U}{dB:Y}{ho:U→Y→Prop}(news:List Nat)(h:o.op=.call ⟨.value gH,args,k⟩)(be:ev gH=.fn f aF)
  (nG:∀(args:Array Value) (w:World),(callFunc f args).run G.P w=.ok (.enter f args) w) (W:∀p∈dB,σ.get p.1=some p.2) (aC:jD σ (args.toList.map ev++aF) cO)
  (cE:gi G.P f dB cO ho) (aT:news.all (λd=>!G.ids.contains d&&(σ.get d).isNone)=true) (hJ:(σ.minus dB.ids).clean news.contains=true)
  (iP:∀r σ2,ho r σ2→r.refs (λd=>!(dB.ids++news).contains d)=false∧σ2.clean (λd=>!(dB.ids++news).contains d)=true) :
  g8 G o ev σ (dB.ids++news) news (λr az=>∃σ2,ho r σ2∧az=σ2++σ.minus dB.ids):=by
 intro cx I β w aP aq hop;have iO:=hop gH (by simp[h,Op.operands,Call.operands]);rw[be]at iO;simp only[ar]at iO;obtain⟨vs,iO,mF⟩:=iO;rw[zT h iO nG];have lB:=pQ _ _ _ _ (v2 ev aP args.toList λx u=>hop x (by simp only[h,Op.operands,Call.operands];simp;right;simpa using u)) mF;have sn:=aC.rep aq _ lB;have fA:=aq.w5 (P:=G.P) W
 have zw:∀d∈news,d∉G.ids∧σ.get d=none:=λd Z=>by
  have:=List.all_eq_true.1 aT d Z;simpa using this
 refine Calls.mono (cE _ w I β _ fA sn) ?_;rintro e w' ⟨v,he,r,σ2,aS,β',aB,jg,eS⟩;obtain⟨gK,dN⟩:=iP r σ2 aB;obtain⟨h1,D,ak⟩:=aq.after W eS news zw hJ dN;refine⟨v,he,r,_,aS,_,⟨σ2,aB,rfl⟩,ak r v gK jg,h1,D,λd Z=>by simp[Z],λd Z=>?_⟩;have Z:d∉dB.ids∧d∉news:=by simpa using Z
 rw[Y.um,Y.jW,if_neg Z.1];cases D:σ2.get d with
 |some g4=>
  have:=(Y.iu dN d g4 D).1;have:(dB.ids++news).contains d=true:=by rw[←Bool.not_eq_false'];exact this
  exact absurd (List.mem_append.1 (List.contains_iff_mem.1 this)) (by simp[Z.1,Z.2])
 |none=>rfl
theorem Fb{P:Program}{w:World}{b off:Nat}{aW:TypeId}{arr:Array Value}(V:w.heap[b]?=some (.cells arr aW (0,0)))(vs:List Value)(aJ:off+vs.length≤arr.size)(h1:∀v∈vs,v.oneCell'=true):
  (storeCells ⟨b,off,none⟩ vs).run P w=.ok () (w.setRow b (iw arr.toList off vs).toArray):=by
 have:=run_storeCells_at P b off aW vs 0 arr w V (by simpa using aJ) h1;simpa [iw]using this
theorem Vu{I:bw}{β:Nat→Value}{cs ds:List U}{vs bF:List Value}(off:Nat)(h:bO I β cs vs)(dc:bO I β ds bF):bO I β (iw cs off ds) (iw vs off bF):=by
 unfold iw;rw[qN _ _ dc];exact pQ _ _ _ _ (pQ _ _ _ _ (zM _ _ _ h) dc) (zL _ _ _ h)
def Y.set(d:Nat)(o:cn):Y→Y
 |[]=>[]
 |(k,x)::r=>bif Nat.beq k d then(k,o)::r else(k,x)::Y.set d o r
theorem Y.hU(d:Nat)(o:cn):∀(σ:Y) (x:Nat),(Y.set d o σ).get x=if x=d then(σ.get d).map λ_=>o else σ.get x
 |[],x=>by simp[Y.set,Y.get]
 |(k,y)::r,x=>by
  simp only[Y.set];by_cases hk:k=d
  ·subst hk;simp only[Nat.beq_refl,cond_true,Y.c4];by_cases u:k=x
   ·subst u;simp
   ·simp[u,Ne.symm u]
  ·have:Nat.beq k d=false:=by rw[←Bool.not_eq_true,Nat.beq_eq];exact hk
   simp only[this,cond_false,Y.c4,Y.hU d o r x];by_cases u:k=x
   ·subst u;simp[hk]
   ·simp[u,hk]
theorem en.HL{T aW d p n:Nat}{x y:Operand}{a:U}{cs:List U}(h:o.op=.store T x y)(u:ev x=.ptr d p)(ah:ev y=a)(Z:σ.get d=some (.cells aW cs))(aH:∀w,(sizeOf T).run G.P w=.ok n w)
  (be:a.flat=true) (aT:(nW a).length=n) (aJ:p+n≤cs.length) :
  g8 G o ev σ [d] [] (λr az=>r=.undef∧az=σ.set d (.cells aW (iw cs p (nW a)))):=by
 intro cx I β w aP aq hop;have h1:=hop x (by simp[h,Op.operands]);rw[u]at h1
 have D:=hop y (by simp[h,Op.operands]);rw[ah]at D
 simp only[ar]at h1;obtain⟨b,h1,ak⟩:=h1;obtain⟨arr,an,au,aK,aG,bb⟩:=aq.box Z h1;obtain⟨f1,f2⟩:=U.CX be D;have jt:=qN _ _ aK;have hQ:=qN _ _ f1;simp only[Array.length_toList]at jt hQ;have ki:=Fb (P:=G.P) au (aP y).cells.toList (off:=p) (by simp;omega) f2;have eX:(execOp aP o).run G.P w=.ok .skip (w.setRow b (iw arr.toList p (aP y).cells.toList).toArray):=by
  have aA:¬((aP y).cells.size≠n):=by omega
  simp[execOp,h,ak,Instr.storeAt,Instr.sureAddr,storeVar,aH,aA,ki]
 rw[eX];refine⟨.undef,_,I,β,⟨rfl,rfl⟩,by simp[ar,aO],?_,b7.refl I,λ_ _=>rfl,λx u=>by rw[Y.hU,if_neg (by simpa using u)]⟩;have eT:bV (β d)=some b:=h1
 refine aq.turn (d:=d) (gn.setRow w b _) bb (λx u=>by rw[Y.hU,if_neg u]) (λx u W e=>aq.dn x d W (by rw[Z];rfl) u b e (je eT)) (b7.refl I) (λ_ _ _=>rfl)
  (λo v af=>by rw[aG o]at af;cases af) (aG none) (λ_ _=>rfl) (.inr rfl) (g0.refl β) (.inl eT) λaI b3=>?_
 rw[Y.hU,if_pos rfl,Z]at b3;injection b3 with b3
 subst b3;simp only[aU];exact .inr ⟨b,_,an,setRow_heap w b arr _ aW _ au,by simpa using Vu p aK f1,aG,bb⟩
end ops
end
section
structure jE(P:Program)(T E sz bytes:Nat):Prop where
 gv:P.underlying T=some (.slice E)
 info:∃i z,P.info? E=some i∧i.zero=some z∧i.size=sz∧i.bytes=bytes∧z.cells.size=sz
 pos:0<sz
theorem zJ{I:bw}{b:Nat}{w:World}(bl:∀b (o:Nat) v,I b o=some v→w.cell? ⟨b,o,none⟩=some v):∀(xs:List (List U)) (o:Nat),iG I b xs o→
  ∃vs:List Value,b9 I xs.flatten vs∧∀j v,vs[j]?=some v→w.cell? ⟨b,o+j,none⟩=some v
 |[],o,_=>⟨[],rfl,λj v h=>by simp at h⟩
 |e::r,o,h=>by
  simp only[iG]at h;obtain⟨vs,h1,D⟩:=La bl e o h.1;obtain⟨bF,ak,bc⟩:=zJ bl r (o+e.length) h.2;have aJ:=nv _ _ h1;refine⟨vs++bF,by simp only[List.flatten_cons];exact(lN _ _ _).2 ⟨vs,bF,rfl,h1,ak⟩,λj v af=>?_⟩;rcases Nat.lt_or_ge j vs.length with aM|aM
  ·rw[List.getElem?_append_left aM]at af;exact D j v af
  ·rw[List.getElem?_append_right aM]at af;have:=bc (j-vs.length) v af
   rwa [aJ,show o+e.length+(j-e.length)=o+j from by omega]at this
theorem Ut{I:bw}:∀(cs:List U) (vs:List Value),cs.all U.one=true→b9 I cs vs→∀v∈vs,v.oneCell'=true:=λcs vs aa h=>
 L6 (β:=λ_=>undef) cs vs aa (b9.rep _ cs vs h)
section ops
variable {G:cq}{o:Oper}{ev:Operand→U}{σ:Y}
theorem mQ{P:Program}{o:Oper}{s x:Operand}{t:Nat}{aP:Operand→Value}{w w':World}{dI:Value}(h:o.op=.call ⟨.builtin .append,#[s,x],#[t,t]⟩)(ax:(Builtin.append_ #[t,t] o.type #[aP s,aP x]).run P w=.ok dI w'):
  (execOp aP o).run P w=.ok (.value dI) w':=by
 simp[execOp,h,resolve,invoke,builtin,ax]
theorem Vv{α:Type}(L news:List α)(n j:Nat)(aM:j<n)(aT:n≤L.length):(L.take n++news++L.drop (n+news.length))[j]?=L[j]?:=by
 rw[List.append_assoc,List.getElem?_append_left (by rw[List.length_take];omega),List.getElem?_take,if_pos aM]
theorem en.append{s x:Operand}{T E sz bytes d d2 aW k:Nat}{f cU:Bool}{xs bu:List (List U)}(h:o.op=.call ⟨.builtin .append,#[s,x],#[T,T]⟩)(W:ev s=.own d)(Z:σ.get d=some (.slice aW sz xs k cU))(u:hP σ (ev x) (.aX f bu))(aH:jE G.P T E sz bytes)(hv:aW=E)
  (qV:∀e∈bu,e.length=sz) (h1:bu.flatten.all U.one=true) (V:(xs.length+bu.length)*bytes≤140737488355328) (oz:xs.length+bu.length≤maxLen) (hi:G.ids.contains d2=false)
  (aa:(σ.minus [d]).clean [d2].contains=true) :
  g8 G o ev σ [d,d2] [d2] (λr az=>r=.own d2∧az=(d2,.slice aW sz (xs++bu) k false)::σ.minus [d]):=by
 subst hv;intro cx I β w aP aq hop;have eP:=hop s (by simp[h,Op.operands,Call.operands]);rw[W]at eP;simp only[ar]at eP;obtain⟨eP,eA⟩:=eP;have cI:=u.rep aq _ (hop x (by simp[h,Op.operands,Call.operands]));simp only[ar,aO]at cI;obtain⟨a,c,cI,gb,lF,_,pg⟩:=cI;obtain⟨i,z,hh,i6,iR,nC,ul⟩:=aH.info;have p2:∃news:List Value,b9 I bu.flatten news∧(bu.length=0∨∃ad:Addr,a=some ad∧∀j ay,news[j]?=some ay→w.cell? (ad.add j)=some ay):=by
  rcases pg with rfl|⟨b,o,rfl,ax⟩
  ·exact⟨[],rfl,.inl rfl⟩
  ·obtain⟨vs,an,au⟩:=zJ aq.good bu o ax;exact⟨vs,an,.inr ⟨_,rfl,λj ay hu=>by rw[kJ];exact au j ay hu⟩⟩
 obtain⟨news,p1,mj⟩:=p2;have jQ:news.length=bu.length*sz:=by rw[nv _ _ p1];exact vS bu qV
 have pa:=Ut _ _ h1 p1;have kA:xs.length+bu.length≤9223372036854775807:=by simp only[maxLen]at oz;omega
 have jJ:bS G cx I β (σ.minus [d]) w:=aq.sub λx aI u=>by rw[Y.jW]at u;split at u<;>first|cases u|exact u
 have lE:=jJ.oS (dD:=[d2]) (σ2:=(d2,.slice aW sz (xs++bu) k false)::σ.minus [d]) (env:=[]) ⟨λx u=>by rw[Y.c4,if_neg (λe=>u (by simp[e]))],λx u=>by simp at u;subst u;simpa using hi,rfl,aa,λx u cT n h=>by simp at u;subst u;rw[Y.c4,if_pos rfl]at h;cases h⟩;have gy:∀x,x≠d2→gF β [d2] x=β x:=λx u=>by simp[gF,u]
 have fin:∀(dI:Value) (w':World) (b:Nat),(execOp aP o).run G.P w=.ok (.value dI) w'→iy dI=true→gn w w' b→Place cx b→(∀x,((σ.minus [d]).get x).isSome→b∉dA (β x))→
   (∀(o:Nat) v,I b o=some v→w'.cell? ⟨b,o,none⟩=some v)→I b none=none→(bV dI=some b∨dA dI=[])→aU cx I (g9 β d2 dI) w' d2 (.slice aW sz (xs++bu) k false)→
   kM G.P (λv w'=>∃(bE:U) (az:Y) (aS:bw) (β':Nat→Value),(bE=.own d2∧az=(d2,cn.slice aW sz (xs++bu) k false)::σ.minus [d])∧ar aS β' bE v∧bS G cx aS β' az w'∧b7 I aS∧(∀x,x∉[d2]→β' x=β x)∧(∀x,x∉[d,d2]→az.get x=σ.get x)) ((execOp aP o).run G.P w):=by
  intro dI w' b eX hT hk aB nA yt xT eT b3;rw[eX];refine⟨.own d2,_,I,g9 β d2 dI,⟨rfl,rfl⟩,by simp only[ar,g7,hT,and_self],?_,b7.refl I,λx u=>gU β dI (by simpa using u),λx u=>?_⟩
  ·refine lE.turn (d:=d2) hk aB (λ_ _=>rfl) (λx u kA e=>?_) (b7.refl I) (λ_ _ _=>rfl) yt xT (λx u=>by rw[gU β dI u,gy x u]) (.inl (by simpa using hi)) (λx=>?_) (by rw[g7];exact eT) (λaI mJ=>?_)
   ·rw[Y.c4,if_neg (Ne.symm u)]at kA;rw[gy x u]at e;exact nA x kA e
   ·by_cases u:x=d2
    ·left;simp[gF,u]
    ·right;rw[gU β dI u,gy x u]
   ·rw[Y.c4,if_pos rfl]at mJ;injection mJ with mJ
    subst mJ;exact b3
  ·have u:x≠d∧x≠d2:=by simpa using u
   rw[Y.c4,if_neg (Ne.symm u.2),Y.jW,if_neg (by simpa using u.1)]
 have other:∀b,bV (β d)=some b→∀x,((σ.minus [d]).get x).isSome→b∉dA (β x):=λb eT x u e=>by
  rw[Y.jW]at u;split at u
  ·cases u
  ·rename_i mZ;exact aq.dn x d u (by rw[Z];rfl) (by simpa using mZ) b e (je eT)
 have rS:∀x,((σ.minus [d]).get x).isSome→w.heap.size∉dA (β x):=λx u e=>by
  obtain⟨aI,u⟩:=Option.isSome_iff_exists.1 u;exact absurd (jJ.qa u e) (by omega)
 have vt:I w.heap.size none=none:=aq.ic (Nat.le_refl _) none;have wE:∀(w':World) (o:Nat) v,I w.heap.size o=some v→w'.cell? ⟨w.heap.size,o,none⟩=some v:=λw' o v af=>by rw[aq.ic (Nat.le_refl _)]at af;cases af
 have q0:∀lf,lf<xs.length+bu.length→xs.length+bu.length≤grownCap w (xs.length+bu.length) lf aW∧grownCap w (xs.length+bu.length) lf aW≤maxLen:=λlf _=>⟨grownCap_ge _ _ _ _,grownCap_le_maxLen _ _ _ _ oz⟩
 have ti:∀(hx:List Value) (aF:Nat),b9 I xs.flatten hx→hx.length=xs.length*sz→(∀e∈xs,e.length=sz)→k≤xs.length→xs.length+bu.length≤aF→aF≤maxLen→
   aU cx I (g9 β d2 (.slice (some ⟨w.heap.size,0,none⟩) (xs.length+bu.length) aF)) (w.drew.alloc (.cells (hx.toArray++news.toArray++Builtin.zeroCells z.cells (aF-(xs.length+bu.length))) aW)) d2 (.slice aW sz (xs++bu) k false):=by
  intro hx aF mG jG Cb anN s2 oB;simp only[aU,g7];have eF:(hx++news).length=(xs++bu).length*sz:=by rw[List.length_append,List.length_append,jG,jQ,Nat.add_mul]
  refine .inr (.inr ⟨w.heap.size,aF,_,by rw[List.length_append],by rw[List.length_append];exact s2,oB,heap_alloc_new w.drew _,?_,?_,?_,by rw[List.length_append];omega,by simp,λo _=>aq.ic (Nat.le_refl _) o,.inl aq.size⟩)
  ·simp only[Array.size_append,List.size_toArray,size_zeroCells,ul,jG,jQ,←Nat.add_mul];congr 1;omega
  ·have:(hx.toArray++news.toArray++Builtin.zeroCells z.cells (aF-(xs.length+bu.length))).toList.take ((xs++bu).length*sz)=hx++news:=by
    simp only[Array.toList_append,List.append_assoc];rw[←List.append_assoc,←eF];exact List.take_left
   rw[this,List.flatten_append];exact(lN _ _ _).2 ⟨_,_,rfl,mG,p1⟩
  ·intro e he;rcases List.mem_append.1 he with he|he
   ·exact Cb e he
   ·exact qV e he
 have q1:∀aI,gn w (w.drew.alloc aI) w.heap.size:=λaI=>(gn.alloc w.drew aI).drew;have aj:=aq.cB d _ Z;simp only[aU]at aj;rcases aj with q|⟨q,rfl,rfl⟩|⟨b,aF,arr,an,au,aK,aG,bb,bC,bY,cK,di,ec,e3⟩
 ·rw[q]at eP;rw[eP]at eA;simp[iy]at eA
 ·
  rcases Nat.eq_zero_or_pos bu.length with hm|hm
  ·have ah:bu=[]:=List.eq_nil_of_length_eq_zero hm;subst ah;refine fin (.slice none 0 0) w w.heap.size (mQ h ?_) rfl ⟨λ_ _ _=>rfl,Nat.le_refl _,rfl,rfl,rfl,Nat.le_refl _⟩ (.inl aq.size) rS (wE w) vt (.inr rfl) ?_
   ·rw[eP,cI,q];cases a<;>simp[Builtin.append_,run_underlying aH.gv,Go.sizeOf,typeInfo,hh,Builtin.lenOf,Builtin.firstCells,loadCells,loadCellsFrom]
   ·simp only[aU,g7];exact .inr (.inl ⟨trivial,rfl,trivial⟩)
  ·obtain⟨ad,rfl,kv⟩:=mj.resolve_left (by omega);have ax:=run_append_nil (P:=G.P) w T o.type aW i z aH.gv hh i6 ad bu.length c news (by rw[iR];exact jQ) kv hm (by simp at kA;omega) (by simp at V;rw[nC];omega);obtain⟨cF,cW⟩:=q0 0 (by simp;exact hm);simp only[List.length_nil,Nat.zero_add]at cF cW;refine fin _ _ w.heap.size (mQ h (by rw[eP,cI,q];exact ax)) rfl (q1 _) (.inl aq.size) rS (wE _) vt (.inl rfl) ?_;have:=ti [] (grownCap w bu.length 0 aW) rfl (by simp) (by simp) (Nat.le_refl _) (by simpa using cF) cW;simpa using this
 ·have eT:bV (β d)=some b:=by rw[an];rfl
  have bQ:=gV aG;have pU:arr.toList.length=aF*sz:=by simpa using bb
  have n4:xs.length*sz≤arr.toList.length:=by rw[pU];exact Nat.mul_le_mul_right _ au
  have ahb:∀(o:Nat) v,I b o=some v→o<xs.length*sz:=λo v af=>by
   rcases Nat.lt_or_ge o (k*sz)with hk|hk
   ·exact Nat.lt_of_lt_of_le hk (Nat.mul_le_mul_right _ cK)
   ·rw[ec o hk]at af;cases af
  by_cases pe:xs.length+bu.length≤aF
  ·
   have eF:(arr.toList.take (xs.length*sz)++news).length=(xs++bu).length*sz:=by rw[List.length_append,List.length_take,Nat.min_eq_left n4,List.length_append,jQ,Nat.add_mul]
   have AK:∀(w':World) (m4:Array Value),w'.heap[b]?=some (.cells m4 aW (0,0))→m4.toList=arr.toList.take (xs.length*sz)++news++arr.toList.drop (xs.length*sz+news.length)→
     aU cx I (g9 β d2 (.slice (some ⟨b,0,none⟩) (xs.length+bu.length) aF)) w' d2 (.slice aW sz (xs++bu) k false):=by
    intro w' m4 cb he;simp only[aU,g7];refine .inr (.inr ⟨b,aF,m4,by rw[List.length_append],by rw[List.length_append];exact pe,aK,cb,?_,?_,?_,by rw[List.length_append];omega,by simp,ec,e3⟩)
    ·have anV:xs.length*sz+news.length≤arr.toList.length:=by rw[jQ,←Nat.add_mul,pU];exact Nat.mul_le_mul_right _ pe
     have agl:m4.size=m4.toList.length:=by simp
     rw[agl,he,←pU];simp only[List.length_append,List.length_take,List.length_drop];omega
    ·rw[he,←eF,List.take_left,List.flatten_append];exact(lN _ _ _).2 ⟨_,_,rfl,bC,p1⟩
    ·intro e he;rcases List.mem_append.1 he with he|he
     ·exact bY e he
     ·exact qV e he
   rcases Nat.eq_zero_or_pos bu.length with hm|hm
   ·have ah:bu=[]:=List.eq_nil_of_length_eq_zero hm;subst ah;have ahs:news=[]:=List.eq_nil_of_length_eq_zero (by simpa using jQ);subst ahs;refine fin (.slice (some ⟨b,0,none⟩) xs.length aF) w b (mQ h ?_) rfl ⟨λ_ _ _=>rfl,Nat.le_refl _,rfl,rfl,rfl,Nat.le_refl _⟩ e3 (other b eT) (λo v af=>aq.good b o v af) (aq.rV aG) (.inl rfl) ?_
    ·rw[eP,cI,an];cases a<;>simp[Builtin.append_,run_underlying aH.gv,Go.sizeOf,typeInfo,hh,Builtin.lenOf,Builtin.firstCells,loadCells,loadCellsFrom,au,storeCells]
    ·have:=AK w arr aG (by simp);simpa using this
   ·obtain⟨ad,rfl,kv⟩:=mj.resolve_left (by omega);have uj:xs.length*i.size+news.length≤arr.size:=by rw[iR,jQ,bb,←Nat.add_mul];exact Nat.mul_le_mul_right _ pe
    have ax:=run_append_room (P:=G.P) w T o.type aW i aH.gv hh b xs.length aF arr aG ad bu.length c news (by rw[iR];exact jQ) kv pa pe uj;rw[iR]at ax;refine fin _ _ b (mQ h (by rw[eP,cI,an];exact ax)) rfl (gn.setRow w b _) e3 (other b eT) (λo v af=>?_) (aq.rV aG) (.inl rfl) (AK _ _ (setRow_heap w b arr _ aW _ aG) rfl);have bl:=aq.good b o v af;simp only[World.cell?,aG]at bl;simp only[World.cell?,setRow_heap w b arr _ aW _ aG];have bl:arr.toList[o]?=some v:=by simpa using bl
    have:=Vv arr.toList news (xs.length*sz) o (ahb o v af) n4;rw[bl]at this;simpa using this
  ·
   have hm:0<bu.length:=by omega
   obtain⟨ad,rfl,kv⟩:=mj.resolve_left (by omega);have r5:(arr.toList.take (xs.length*sz)).length=xs.length*sz:=by rw[List.length_take,Nat.min_eq_left n4]
   have vM:∀j v,(arr.toList.take (xs.length*sz))[j]?=some v→w.cell? ((⟨b,0,none⟩:Addr).add j)=some v:=λj v af=>by
    rw[kJ];rw[List.getElem?_take]at af;split at af
    ·simp only[World.cell?,aG,Nat.zero_add];simpa using af
    ·cases af
   have ax:=run_append_grow (P:=G.P) w T o.type aW i z aH.gv hh i6 ⟨b,0,none⟩ xs.length aF _ (by rw[iR];exact r5) vM ad bu.length c news (by rw[iR];exact jQ) kv (by omega) (by omega) (growslice_fits (by omega) (by rw[nC];exact V));obtain⟨cF,cW⟩:=q0 aF (by omega);exact fin _ _ w.heap.size (mQ h (by rw[eP,cI,an];exact ax)) rfl (q1 _) (.inl aq.size) rS (wE _) vt (.inl rfl) (ti _ _ bC r5 bY cK cF cW)
theorem en.Mn{s x:Operand}{T E sz bytes d2:Nat}{f:Bool}{xs bu:List (List U)}(h:o.op=.call ⟨.builtin .append,#[s,x],#[T,T]⟩)(W:(ev s=.cV∧xs=[])∨(ev s=.aX true xs∧0<bu.length))(u:hP σ (ev x) (.aX f bu))(aH:jE G.P T E sz bytes)
  (xV:∀e∈xs,e.length=sz) (qV:∀e∈bu,e.length=sz) (h1:bu.flatten.all U.one=true) (V:(xs.length+bu.length)*bytes≤140737488355328) (oz:xs.length+bu.length≤maxLen) (hi:G.ids.contains d2=false)
  (aa:σ.clean [d2].contains=true) :
  g8 G o ev σ [d2] [d2] (λr az=>r=.own d2∧az=(d2,.slice E sz (xs++bu) 0 false)::σ):=by
 intro cx I β w aP aq hop;have eP:=hop s (by simp[h,Op.operands,Call.operands]);have cI:=u.rep aq _ (hop x (by simp[h,Op.operands,Call.operands]));simp only[ar,aO]at cI;obtain⟨a,c,cI,gb,lF,_,pg⟩:=cI;obtain⟨i,z,hh,i6,iR,nC,ul⟩:=aH.info;have p2:∃news:List Value,b9 I bu.flatten news∧(bu.length=0∨∃ad:Addr,a=some ad∧∀j ay,news[j]?=some ay→w.cell? (ad.add j)=some ay):=by
  rcases pg with rfl|⟨b,o,rfl,ax⟩
  ·exact⟨[],rfl,.inl rfl⟩
  ·obtain⟨vs,an,au⟩:=zJ aq.good bu o ax;exact⟨vs,an,.inr ⟨_,rfl,λj ay hu=>by rw[kJ];exact au j ay hu⟩⟩
 obtain⟨news,p1,mj⟩:=p2;have jQ:news.length=bu.length*sz:=by rw[nv _ _ p1];exact vS bu qV
 have kA:xs.length+bu.length≤9223372036854775807:=by simp only[maxLen]at oz;omega
 have lE:=aq.oS (dD:=[d2]) (σ2:=(d2,.slice E sz (xs++bu) 0 false)::σ) (env:=[]) ⟨λx u=>by rw[Y.c4,if_neg (λe=>u (by simp[e]))],λx u=>by simp at u;subst u;simpa using hi,rfl,aa,λx u cT n h=>by simp at u;subst u;rw[Y.c4,if_pos rfl]at h;cases h⟩;have gy:∀x,x≠d2→gF β [d2] x=β x:=λx u=>by simp[gF,u]
 have rS:∀x,(σ.get x).isSome→w.heap.size∉dA (β x):=λx u e=>by
  obtain⟨aI,u⟩:=Option.isSome_iff_exists.1 u;exact absurd (aq.qa u e) (by omega)
 have vt:I w.heap.size none=none:=aq.ic (Nat.le_refl _) none;have wE:∀(w':World) (o:Nat) v,I w.heap.size o=some v→w'.cell? ⟨w.heap.size,o,none⟩=some v:=λw' o v af=>by rw[aq.ic (Nat.le_refl _)]at af;cases af
 have fin:∀(dI:Value) (w':World),(execOp aP o).run G.P w=.ok (.value dI) w'→iy dI=true→gn w w' w.heap.size→(bV dI=some w.heap.size∨dA dI=[])→aU cx I (g9 β d2 dI) w' d2 (.slice E sz (xs++bu) 0 false)→
   kM G.P (λv w'=>∃(bE:U) (az:Y) (aS:bw) (β':Nat→Value),(bE=.own d2∧az=(d2,cn.slice E sz (xs++bu) 0 false)::σ)∧ar aS β' bE v∧bS G cx aS β' az w'∧b7 I aS∧(∀x,x∉[d2]→β' x=β x)∧(∀x,x∉[d2]→az.get x=σ.get x)) ((execOp aP o).run G.P w):=by
  intro dI w' eX hT hk eT b3;rw[eX];refine⟨.own d2,_,I,g9 β d2 dI,⟨rfl,rfl⟩,by simp only[ar,g7,hT,and_self],?_,b7.refl I,λx u=>gU β dI (by simpa using u),λx u=>?_⟩
  ·refine lE.turn (d:=d2) hk (.inl aq.size) (λ_ _=>rfl) (λx u kA e=>?_) (b7.refl I) (λ_ _ _=>rfl) (wE w') vt (λx u=>by rw[gU β dI u,gy x u]) (.inl (by simpa using hi)) (λx=>?_) (by rw[g7];exact eT) (λaI mJ=>?_)
   ·rw[Y.c4,if_neg (Ne.symm u)]at kA;rw[gy x u]at e;exact rS x kA e
   ·by_cases u:x=d2
    ·left;simp[gF,u]
    ·right;rw[gU β dI u,gy x u]
   ·rw[Y.c4,if_pos rfl]at mJ;injection mJ with mJ
    subst mJ;exact b3
  ·have u:x≠d2:=by simpa using u
   rw[Y.c4,if_neg (Ne.symm u)]
 have q0:∀lf,lf<xs.length+bu.length→xs.length+bu.length≤grownCap w (xs.length+bu.length) lf E∧grownCap w (xs.length+bu.length) lf E≤maxLen:=λlf _=>⟨grownCap_ge _ _ _ _,grownCap_le_maxLen _ _ _ _ oz⟩
 have ti:∀(hx:List Value) (aF:Nat),b9 I xs.flatten hx→hx.length=xs.length*sz→xs.length+bu.length≤aF→aF≤maxLen→
   aU cx I (g9 β d2 (.slice (some ⟨w.heap.size,0,none⟩) (xs.length+bu.length) aF)) (w.drew.alloc (.cells (hx.toArray++news.toArray++Builtin.zeroCells z.cells (aF-(xs.length+bu.length))) E)) d2 (.slice E sz (xs++bu) 0 false):=by
  intro hx aF mG jG s2 oB;simp only[aU,g7];have eF:(hx++news).length=(xs++bu).length*sz:=by rw[List.length_append,List.length_append,jG,jQ,Nat.add_mul]
  refine .inr (.inr ⟨w.heap.size,aF,_,by rw[List.length_append],by rw[List.length_append];exact s2,oB,heap_alloc_new w.drew _,?_,?_,?_,by omega,by simp,λo _=>aq.ic (Nat.le_refl _) o,.inl aq.size⟩)
  ·simp only[Array.size_append,List.size_toArray,size_zeroCells,ul,jG,jQ,←Nat.add_mul];congr 1;omega
  ·have:(hx.toArray++news.toArray++Builtin.zeroCells z.cells (aF-(xs.length+bu.length))).toList.take ((xs++bu).length*sz)=hx++news:=by
    simp only[Array.toList_append,List.append_assoc];rw[←List.append_assoc,←eF];exact List.take_left
   rw[this,List.flatten_append];exact(lN _ _ _).2 ⟨_,_,rfl,mG,p1⟩
  ·intro e he;rcases List.mem_append.1 he with he|he
   ·exact xV e he
   ·exact qV e he
 have q1:∀aI,gn w (w.drew.alloc aI) w.heap.size:=λaI=>(gn.alloc w.drew aI).drew;rcases W with⟨W,rfl⟩|⟨W,hm⟩
 ·rw[W]at eP;simp only[ar,aO]at eP;rcases Nat.eq_zero_or_pos bu.length with hm|hm
  ·have ah:bu=[]:=List.eq_nil_of_length_eq_zero hm;subst ah;refine fin (.slice none 0 0) w (mQ h ?_) rfl ⟨λ_ _ _=>rfl,Nat.le_refl _,rfl,rfl,rfl,Nat.le_refl _⟩ (.inr rfl) ?_
   ·rw[eP,cI];cases a<;>simp[Builtin.append_,run_underlying aH.gv,Go.sizeOf,typeInfo,hh,Builtin.lenOf,Builtin.firstCells,loadCells,loadCellsFrom]
   ·simp only[aU,g7];exact .inr (.inl ⟨trivial,rfl,trivial⟩)
  ·obtain⟨ad,rfl,kv⟩:=mj.resolve_left (by omega);have ax:=run_append_nil (P:=G.P) w T o.type E i z aH.gv hh i6 ad bu.length c news (by rw[iR];exact jQ) kv hm (by simp at kA;omega) (by simp at V;rw[nC];omega);obtain⟨cF,cW⟩:=q0 0 (by simp;exact hm);simp only[List.length_nil,Nat.zero_add]at cF cW;refine fin _ _ (mQ h (by rw[eP,cI];exact ax)) rfl (q1 _) (.inl rfl) ?_;have:=ti [] (grownCap w bu.length 0 E) rfl (by simp) (by simpa using cF) cW;simpa using this
 ·rw[W]at eP;simp only[ar,aO]at eP;obtain⟨a0,kI,eP,_,_,mF,h0⟩:=eP;have mF:=mF trivial;subst mF;obtain⟨ad,rfl,kv⟩:=mj.resolve_left (by omega);rcases h0 with rfl|⟨b,p,rfl,h0⟩
  ·
   obtain⟨cF,cW⟩:=q0 0 (by simp;exact hm);simp only[List.length_nil,Nat.zero_add]at cF cW;cases a0 with
   |none=>
    have ax:=run_append_nil (P:=G.P) w T o.type E i z aH.gv hh i6 ad bu.length c news (by rw[iR];exact jQ) kv hm (by simp at kA;omega) (by simp at V;rw[nC];omega);refine fin _ _ (mQ h (by rw[eP,cI];exact ax)) rfl (q1 _) (.inl rfl) ?_;have:=ti [] (grownCap w bu.length 0 E) rfl (by simp) (by simpa using cF) cW;simpa using this
   |some jj=>
    have ax:=run_append_grow (P:=G.P) w T o.type E i z aH.gv hh i6 jj 0 0 [] (by simp) (by simp) ad bu.length c news (by rw[iR];exact jQ) kv (by omega) (by simp at kA;omega) (growslice_fits (by omega) (by rw[nC];simpa using V));simp only[Nat.zero_add]at ax;refine fin _ _ (mQ h (by rw[eP,cI];exact ax)) rfl (q1 _) (.inl rfl) ?_;have:=ti [] (grownCap w bu.length 0 E) rfl (by simp) (by simpa using cF) cW;simpa using this
  ·obtain⟨hx,gd,ey⟩:=zJ aq.good xs p h0;have r5:hx.length=xs.length*sz:=by rw[nv _ _ gd];exact vS xs xV
   have ax:=run_append_grow (P:=G.P) w T o.type E i z aH.gv hh i6 ⟨b,p,none⟩ xs.length xs.length hx (by rw[iR];exact r5) (λj v af=>by rw[kJ];exact ey j v af) ad bu.length c news (by rw[iR];exact jQ) kv (by omega) (by omega) (growslice_fits (by omega) (by rw[nC];exact V));obtain⟨cF,cW⟩:=q0 xs.length (by omega);exact fin _ _ (mQ h (by rw[eP,cI];exact ax)) rfl (q1 _) (.inl rfl) (ti _ _ gd r5 cF cW)
theorem bG.makeFunc{f:FuncId}{aF:Array Operand}(h:o.op=.makeFunc (.func f) #[] aF):Yields G o ev σ [] [] (.fn f (aF.toList.map ev)):=
 .pure λaz cx I β w aP b2 aq hop=>by
  refine⟨.func (.func f) #[] (aF.map aP),by simp[execOp,h,Instr.makeFunc],?_⟩;simp only[ar];exact⟨_,rfl,by simpa using v2 ev aP aF.toList λx u=>hop x (by simp only[h,Op.operands];simpa using u)⟩
structure gE(P:Program)(T f off n:Nat)(dr:Bool):Prop where
 run:∀(cs:Array Value) w,off+n≤cs.size→(Instr.field T (.agg cs) f).run P w=.ok (if dr then .agg (cs.extract off (off+n))else cs.getD off undef) w
 pos:dr=false→n=1
theorem bG.field{T f off n:Nat}{dr:Bool}{x:Operand}{cs:List U}(h:o.op=.field T x f)(u:ev x=.agg cs)(aH:gE G.P T f off n dr)(aT:Nat.ble (off+n) cs.length=true):Yields G o ev σ [] [] (nL dr n (cs.drop off)):=
 .pure λaz cx I β w aP b2 aq hop=>by
  have h1:=hop x (by simp[h,Op.operands]);rw[u]at h1
  simp only[ar]at h1;obtain⟨vs,h1,D⟩:=h1;have aJ:=qN _ _ D;simp only[Array.length_toList]at aJ;have aT:off+n≤cs.length:=by simpa using aT
  have Z:=zL off _ _ D;refine⟨_,by simp only[execOp,h,h1,Sem.run_bind,aH.run vs w (by omega),Result.andThen_ok,Sem.run_pure];rfl,?_⟩;cases dr with
  |true=>
   simp only[nL,cond_true,if_true,ar];refine⟨_,rfl,?_⟩;have:=zM n _ _ Z;simpa [Array.toList_extract,List.extract_eq_take_drop]using this
  |false=>
   simp only[nL,cond_false,Bool.false_eq_true,if_false];have aB:=aH.pos rfl;have bQ:off<vs.size:=by omega
   have e:vs.toList.drop off=vs[off]::vs.toList.drop (off+1):=by rw[List.drop_eq_getElem_cons (by simpa using bQ)];simp
   rw[e]at Z;rw[Array.getD_eq_getD_getElem?,Array.getElem?_eq_getElem bQ];generalize cs.drop off=ds at Z;cases ds with
   |nil=>simp[ar]
   |cons y r=>
    simp only[bO]at Z;obtain⟨ay,bF,e,Z,_⟩:=Z;cases e;exact Z
theorem FL{I:bw}{b sz:Nat}:∀(l:Nat) (xs:List (List U)) (o:Nat),(∀e∈xs,e.length=sz)→iG I b xs o→iG I b (xs.drop l) (o+l*sz)
 |0,xs,o,_,h=>by simpa using h
 |l+1,[],o,_,_=>by simp[iG]
 |l+1,e::r,o,aJ,h=>by
  simp only[iG]at h;have he:=aJ e (by simp);have:=FL l r (o+e.length) (λx u=>aJ x (by simp[u])) h.2;rw[he]at this;rw[Nat.add_mul,Nat.one_mul];simpa [Nat.add_assoc,Nat.add_comm sz]using this
theorem K0{I:bw}{b:Nat}:∀(h:Nat) (xs:List (List U)) (o:Nat),iG I b xs o→iG I b (xs.take h) o
 |0,_,_,_=>by simp[iG]
 |h+1,[],_,_=>by simp[iG]
 |h+1,e::r,o,cb=>by
  simp only[iG,List.take_succ_cons]at cb ⊢;exact⟨cb.1,K0 h r _ cb.2⟩
theorem run_sliceBound{P:Program}{k:IntKind}{n:Int}{y:Nat}{code:BoundsCode}{w:World}(h:0≤n∧n≤(y:Int)):(Instr.sliceBound (.int k n) y code).run P w=.ok n.toNat w:=by
 unfold Instr.sliceBound;simp only[asIntOf,Sem.run_bind,Sem.run_pure,Result.andThen_ok];rw[if_pos h];rfl
def k6(ev:Operand→U):Option Operand→Int|none=>0|some x=>match ev x with|.int _ n=>n|_=>-1
def pG(ev:Operand→U)(len:Nat):Option Operand→Int|none=>len|some x=>match ev x with|.int _ n=>n|_=>-1
theorem yu{I:bw}{β:Nat→Value}{aP:Operand→Value}{x:Operand}(h:∃k n,ev x=.int k n)(u:ar I β (ev x) (aP x)):∃k n,ev x=.int k n∧aP x=.int k n:=by
 obtain⟨k,n,h⟩:=h;rw[h]at u;exact⟨k,n,h,iH u⟩
def tj(ev:Operand→U):Option Operand→Prop|none=>True|some x=>∃k n,ev x=.int k n
theorem bG.slice{T E sz:Nat}{x:Operand}{f:Bool}{lo hi:Option Operand}{xs:List (List U)}(h:o.op=.slice T x lo hi none)(u:hP σ (ev x) (.aX f xs))(aH:jh G.P T E sz)(eF:∀e∈xs,e.length=sz)(vT:tj ev lo)(Cs:tj ev hi)
  (kz:0≤k6 ev lo∧k6 ev lo≤pG ev xs.length hi∧pG ev xs.length hi≤xs.length) (R:List Nat) (b2:∀az:Y,(∀d∈R,az.get d=σ.get d)→hP az (ev x) (.aX f xs)) :
  Yields G o ev σ [] R (.aX false ((xs.take (pG ev xs.length hi).toNat).drop (k6 ev lo).toNat)):=
 .pure λaz cx I β w aP JG aq hop=>by
  have h1:=(b2 az JG).rep aq _ (hop x (by simp[h,Op.operands]));simp only[ar,aO]at h1;obtain⟨a,c,h1,D,ak,_,bc⟩:=h1;generalize aJ:k6 ev lo=l at kz ⊢;generalize cb:pG ev xs.length hi=ay at kz ⊢;have aA:(Instr.sliceBounds true xs.length c (lo.map aP) (hi.map aP) none).run G.P w=.ok (l.toNat,ay.toNat,c) w:=by
   have hu:0≤ay∧ay≤(c:Int):=by omega
   have zq:0≤l∧l≤(ay.toNat:Int):=by omega
   cases hi with
   |none=>
    simp only[pG]at cb;subst cb;cases lo with
    |none=>
     simp only[k6]at aJ;subst aJ;simp[Instr.sliceBounds]
    |some y=>
     obtain⟨k,n,an,au⟩:=yu vT (hop y (by simp[h,Op.operands]));simp only[k6,an]at aJ;subst aJ;have:=run_sliceBound (P:=G.P) (k:=k) (code:=.sliceB) (w:=w) zq;simp only[Int.toNat_natCast]at this;simp[Instr.sliceBounds,au,this]
   |some z=>
    obtain⟨Ky,aiC,lp,mz⟩:=yu Cs (hop z (by simp[h,Op.operands]));simp only[pG,lp]at cb;subst cb;have hr:=run_sliceBound (P:=G.P) (k:=Ky) (code:=.sliceAcap) (w:=w) hu;cases lo with
    |none=>
     simp only[k6]at aJ;subst aJ;simp[Instr.sliceBounds,mz,hr]
    |some y=>
     obtain⟨k,n,an,au⟩:=yu vT (hop y (by simp[h,Op.operands]));simp only[k6,an]at aJ;subst aJ;have:=run_sliceBound (P:=G.P) (k:=k) (code:=.sliceB) (w:=w) zq;simp[Instr.sliceBounds,mz,hr,au,this]
  have eX:(execOp aP o).run G.P w=.ok (.value (.slice (if c=l.toNat then a else a.map (·.add (l.toNat*sz))) (ay.toNat-l.toNat) (c-l.toNat))) w:=by
   have e2:∀w,(underlying T).run G.P w=.ok (.slice E) w:=λw=>run_underlying aH.gv w;simp only[execOp,h,Instr.sliceAt,Instr.slice,h1,Sem.run_bind,e2,Result.andThen_ok,aA,aH.size,Sem.run_pure,Option.map_none]
  refine⟨_,eX,?_⟩;simp only[ar,aO];have vJ:((xs.take ay.toNat).drop l.toNat).length=ay.toNat-l.toNat:=by rw[List.length_drop,List.length_take];omega
  refine⟨_,c-l.toNat,by rw[vJ],by rw[vJ];omega,by omega,by simp,?_⟩;by_cases he:(xs.take ay.toNat).drop l.toNat=[]
  ·exact .inl he
  ·right;have bQ:l.toNat<ay.toNat:=by
    rcases Nat.lt_or_ge l.toNat ay.toNat with q|q
    ·exact q
    ·exact absurd (List.eq_nil_of_length_eq_zero (by rw[vJ];omega)) he
   rcases bc with rfl|⟨b,p,rfl,bc⟩
   ·simp at he
   ·refine⟨b,p+l.toNat*sz,?_,FL _ _ _ (λe cb=>eF e (List.mem_of_mem_take cb)) (K0 _ _ _ bc)⟩;rw[if_neg (by omega)];simp[kJ]
end ops
end
end Go.Proofs.YtmnbolcmepihlaaGreat
