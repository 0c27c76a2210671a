/- Several texts in one. No condition but those that stand in each. -/
import Derived.Orders
import Derived.Tactics
import Derived.Laws.World
import Derived.Below
import Derived.KernelRfl
import Derived.Laws.Small
import Derived.Laws.StructEq
import Derived.Laws.OwnMore
import Derived.Maps.AppendAt
namespace Go.Proofs.YtmnbolcmepihlaaGreat
set_option linter.all false
open Go List
section
abbrev cN:=List Int
abbrev ei:=List Nat
abbrev fI:=List (List Int)
abbrev fK:=List Value
abbrev gx:=Array MapEntry
abbrev jj:=Array Value
abbrev ko:=Option Bool
abbrev kr:=Option Int
abbrev lp:=Array Oper
abbrev lq:=List (List Bool)
abbrev nZ:=Option Nat
abbrev oe:=List MapEntry
abbrev o8:=Array Bool
abbrev pQ:=Array Nat
abbrev q3:=List Bool
abbrev rK:=List (List Nat)
abbrev tc:=Option (List Int)
abbrev bP:=Nat→nZ→Option Value
def dc(I bm:bP):Prop:=∀b o v,I b o=some v→bm b o=some v
def dc.refl(I:bP):dc I I:=λ_ _ _ h=>h
variable {I:bP}
def dc.trans{J K:bP}(h:dc I J)(dw:dc J K):dc I K:=λ_ _ _ x=>dw _ _ _ (h _ _ _ x)
inductive om where
 |Wo (f:Nat)
 |Ck (n:Nat)
 |row (i:Nat)
 |pT (i off:Nat)
 deriving DecidableEq
inductive W where
 |ig
 |undef
 |int (k:IntKind) (n:Int)
 |bool (b:Bool)
 |str (s:ByteArray)
 |bf (full:Bool) (xs:List (List W))
 |gP (cs:List W)
 |agg (cs:List W)
 |dm (vs:List W)
 |fn (f:Nat) (aT:List W)
 |dh
 |og
 |own (d:Nat)
 |ptr (d off:Nat)
 |ep (d:Nat)
 |h9 (f:Nat) (aT:List W)
 |l7
 |fH (k:om) (d:Nat)
 |ec (bO:List (W×W))
 |arr (xs:cN)
 deriving Inhabited
def qe(es:gx)(clock:Nat):Value:=.tuple #[.int .i64 (clock:Int),.tuple (es.map λe=>.tuple #[e.key,e.val,.int .i64 (e.born:Int)])]
def K0{es kJ:gx}{c wR:Nat}(h:qe es c=qe kJ wR):es=kJ∧c=wR:=by
 simp only[qe,Value.tuple.injEq,Array.mk.injEq,List.cons.injEq,Value.int.injEq,true_and,and_true,Int.ofNat_inj]at h;refine⟨?_,h.1⟩;refine Array.map_inj_right (λx y n5=>?_)|>.1 h.2;simp only[Value.tuple.injEq,Array.mk.injEq,List.cons.injEq,Value.int.injEq,true_and,and_true,Int.ofNat_inj]at n5;obtain⟨k,v,b⟩:=x;obtain⟨gK,eP,aX⟩:=y
 simp only at n5;obtain⟨rfl,rfl,rfl⟩:=n5;rfl
def k9(es:gx)(clock:Nat):Prop:=(es.toList.map (·.born)).Nodup∧∀x∈es.toList,x.born<clock
mutual
def bk(I:bP):W→Value→Prop
 |.ig,_=>True
 |.undef,v=>v=Go.undef
 |.int k n,v=>v=.int k n
 |.bool b,v=>v=.bool b
 |.str s,v=>v=.string s
 |.bf full xs,v=>∃a c,v=.slice a xs.length c∧xs.length≤c∧c≤maxLen∧(full=true→c=xs.length)∧
   (xs=[]∨∃b o,a=some ⟨b,o,none⟩∧jF I b xs o)
 |.gP cs,v=>∃b o,v=.pointer (some ⟨b,o,none⟩)∧lu I b cs o
 |.agg cs,v=>∃vs,v=.agg vs∧cD I cs vs.toList
 |.dm cs,v=>∃vs,v=.tuple vs∧cD I cs vs.toList
 |.fn f aT,v=>∃vs,v=.func (.func f) #[] vs∧cD I aT vs.toList
 |.dh,v=>v=.slice none 0 0
 |.og,v=>v=.pointer none
 |.own _,_=>False
 |.ptr _ _,_=>False
 |.ep _,_=>False
 |.h9 f aT,v=>∃vs,v=.func (.func f) #[] vs∧cD I aT vs.toList
 |.l7,v=>∃a c,v=.slice (some a) 0 c∧c≤maxLen
 |.fH _ _,_=>False
 |.arr xs,v=>v=.agg (xs.map (Value.int .i64)).toArray
 |.ec bO,v=>∃r es clock,v=.map (some r)∧I r none=some (qe es clock)∧gm I bO es.toList∧k9 es clock
def gm(I:bP):List (W×W)→oe→Prop
 |[],es=>es=[]
 |(k,v)::r,es=>∃e b8,es=e::b8∧bk I k e.key∧bk I v e.val∧gm I r b8
def cD(I:bP):List W→fK→Prop
 |[],vs=>vs=[]
 |x::r,vs=>∃aq b8,vs=aq::b8∧bk I x aq∧cD I r b8
def lu(I:bP)(b:Nat):List W→Nat→Prop
 |[],_=>True
 |x::r,o=>(∃aq,I b o=some aq∧bk I x aq)∧lu I b r (o+1)
def jF(I:bP)(b:Nat):List (List W)→Nat→Prop
 |[],_=>True
 |e::r,o=>lu I b e o∧jF I b r (o+e.length)
end
def jX:Value→Bool|.slice ..=>true|_=>false
def nN:Value→Bool|.map ..=>true|_=>false
def cV:Value→nZ
 |.pointer (some a)=>some a.block
 |.slice (some a) _ _=>some a.block
 |.map (some r)=>some r
 |_=>none
def e4:Value→ei
 |.tuple vs=>vs.toList.filterMap cV
 |v=>(cV v).toList
variable {b:Nat}
def lF{v:Value}(h:cV v=some b):b∈e4 v:=by
 cases v<;>first|(simp[cV]at h;done)|(simp only[e4,h];simp)
def G7{v:Value}{aX:Nat}(h:cV v=some b)(dw:aX∈e4 v):aX=b:=by
 cases v<;>first|(simp[cV]at h;done)|(simp only[e4,h]at dw;simpa using dw)
def Rc:e4 .nilFunc=[]:=rfl
def Lk:e4 (.slice none 0 0)=[]:=rfl
def om.rep:om→Value→Value→Prop
 |.Wo f,h,v=>∃b,cV h=some b∧v=.func (.func f) #[.pointer (some ⟨b,0,none⟩)] #[]
 |.Ck n,h,v=>∃b,cV h=some b∧v=.slice (some ⟨b,0,none⟩) n n
 |.row i,h,v=>∃Z:jj,h=.tuple Z∧Z.toList[i]?=some v
 |.pT i off,h,v=>∃(Z:jj) (aq:Value) (b:Nat),h=.tuple Z∧Z.toList[i]?=some aq∧cV aq=some b∧v=.pointer (some ⟨b,off,none⟩)
def azU{k:om}{v:Value}(h:k.rep .nilFunc v):False:=by
 cases k with
 |Wo f=>obtain⟨b,h,_⟩:=h;cases h
 |Ck n=>obtain⟨b,h,_⟩:=h;cases h
 |row i=>obtain⟨Z,h,_⟩:=h;cases h
 |pT i off=>obtain⟨Z,aq,b,h,_⟩:=h;cases h
mutual
def aD(I:bP)(β:Nat→Value):W→Value→Prop
 |.agg cs,v=>∃vs,v=.agg vs∧cw I β cs vs.toList
 |.dm cs,v=>∃vs,v=.tuple vs∧cw I β cs vs.toList
 |.fn f aT,v=>∃vs,v=.func (.func f) #[] vs∧cw I β aT vs.toList
 |.own d,v=>v=β d∧jX v=true
 |.ptr d off,v=>∃b,cV (β d)=some b∧v=.pointer (some ⟨b,off,none⟩)
 |.ep d,v=>v=β d∧nN v=true
 |.ig,_=>True
 |.undef,v=>bk I .undef v
 |.int k n,v=>bk I (.int k n) v
 |.bool b,v=>bk I (.bool b) v
 |.str s,v=>bk I (.str s) v
 |.bf f xs,v=>bk I (.bf f xs) v
 |.gP cs,v=>bk I (.gP cs) v
 |.dh,v=>bk I .dh v
 |.og,v=>bk I .og v
 |.h9 f aT,v=>bk I (.h9 f aT) v
 |.l7,v=>bk I .l7 v
 |.fH k d,v=>k.rep (β d) v
 |.ec bO,v=>bk I (.ec bO) v
 |.arr xs,v=>bk I (.arr xs) v
def cw(I:bP)(β:Nat→Value):List W→fK→Prop
 |[],vs=>vs=[]
 |x::r,vs=>∃aq b8,vs=aq::b8∧aD I β x aq∧cw I β r b8
end
mutual
def kI{I bm:bP}(h:dc I bm):∀(x:W) (v:Value),bk I x v→bk bm x v
 |.ig,_,_=>trivial
 |.undef,_,r=>r
 |.int _ _,_,r=>r
 |.bool _,_,r=>r
 |.str _,_,r=>r
 |.bf full xs,v,r=>by
   simp only[bk]at r ⊢;obtain⟨a,c,h1,D,aj,aV,b4⟩:=r;refine⟨a,c,h1,D,aj,aV,?_⟩;rcases b4 with b4|⟨b,o,b4,dz⟩
   ·exact .inl b4
   ·exact .inr ⟨b,o,b4,AU h xs b o dz⟩
 |.gP cs,v,r=>by
   simp only[bk]at r ⊢;obtain⟨b,o,h1,D⟩:=r;exact⟨b,o,h1,Ro h cs b o D⟩
 |.agg cs,v,r=>by
   simp only[bk]at r ⊢;obtain⟨vs,h1,D⟩:=r;exact⟨vs,h1,ov h cs _ D⟩
 |.dm cs,v,r=>by
   simp only[bk]at r ⊢;obtain⟨vs,h1,D⟩:=r;exact⟨vs,h1,ov h cs _ D⟩
 |.fn f aT,v,r=>by
   simp only[bk]at r ⊢;obtain⟨vs,h1,D⟩:=r;exact⟨vs,h1,ov h aT _ D⟩
 |.dh,_,r=>r
 |.og,_,r=>r
 |.own _,_,r=>r
 |.ptr _ _,_,r=>r
 |.ep _,_,r=>r
 |.h9 f aT,v,r=>by
   simp only[bk]at r ⊢;obtain⟨vs,h1,D⟩:=r;exact⟨vs,h1,ov h aT _ D⟩
 |.l7,_,r=>by simp only[bk]at r ⊢;exact r
 |.fH _ _,_,r=>r
 |.arr _,v,r=>by simpa only[bk]using r
 |.ec bO,v,r=>by
   simp only[bk]at r ⊢;obtain⟨b,es,clock,h1,D,aj,aV⟩:=r;exact⟨b,es,clock,h1,h _ _ _ D,nA h bO _ aj,aV⟩
def nA{I bm:bP}(h:dc I bm):∀(x:List (W×W)) (es:oe),gm I x es→gm bm x es
 |[],_,r=>r
 |(k,aq)::x,es,r=>by
   simp only[gm]at r ⊢;obtain⟨e,b8,h1,D,aj,aV⟩:=r;exact⟨e,b8,h1,kI h k _ D,kI h aq _ aj,nA h x b8 aV⟩
def ov{I bm:bP}(h:dc I bm):∀(x:List W) (v:fK),cD I x v→cD bm x v
 |[],_,r=>r
 |x::xs,v,r=>by
   simp only[cD]at r ⊢;obtain⟨aq,b8,h1,D,aj⟩:=r;exact⟨aq,b8,h1,kI h x aq D,ov h xs b8 aj⟩
def Ro{I bm:bP}(h:dc I bm):∀(x:List W) (b o:Nat),lu I b x o→lu bm b x o
 |[],_,_,r=>r
 |x::xs,b,o,r=>by
   simp only[lu]at r ⊢;obtain⟨⟨aq,h1,D⟩,aj⟩:=r;exact⟨⟨aq,h _ _ _ h1,kI h x aq D⟩,Ro h xs b (o+1) aj⟩
def AU{I bm:bP}(h:dc I bm):∀(x:List (List W)) (b o:Nat),jF I b x o→jF bm b x o
 |[],_,_,r=>r
 |x::xs,b,o,r=>by
   simp only[jF]at r ⊢;exact⟨Ro h x b o r.1,AU h xs b (o+x.length) r.2⟩
end
def h8(β β':Nat→Value):Prop:=∀d,β d=.nilFunc∨β' d=β d
def h8.refl(β:Nat→Value):h8 β β:=λ_=>.inr rfl
mutual
def Dm{I bm:bP}{β β':Nat→Value}(h:dc I bm)(Y:h8 β β'):∀(x:W) (v:Value),aD I β x v→aD bm β' x v
 |.ig,_,_=>trivial
 |.undef,v,r=>by simp only[aD]at r ⊢;exact kI h _ v r
 |.int _ _,v,r=>by simp only[aD]at r ⊢;exact kI h _ v r
 |.bool _,v,r=>by simp only[aD]at r ⊢;exact kI h _ v r
 |.str _,v,r=>by simp only[aD]at r ⊢;exact kI h _ v r
 |.bf _ _,v,r=>by simp only[aD]at r ⊢;exact kI h _ v r
 |.gP _,v,r=>by simp only[aD]at r ⊢;exact kI h _ v r
 |.dh,v,r=>by simp only[aD]at r ⊢;exact kI h _ v r
 |.og,v,r=>by simp only[aD]at r ⊢;exact kI h _ v r
 |.h9 _ _,v,r=>by simp only[aD]at r ⊢;exact kI h _ v r
 |.l7,v,r=>by simp only[aD]at r ⊢;exact kI h _ v r
 |.ec _,v,r=>by simp only[aD]at r ⊢;exact kI h _ v r
 |.arr _,v,r=>by simp only[aD]at r ⊢;exact kI h _ v r
 |.agg cs,v,r=>by
   simp only[aD]at r ⊢;obtain⟨vs,h1,D⟩:=r;exact⟨vs,h1,vU h Y cs _ D⟩
 |.dm cs,v,r=>by
   simp only[aD]at r ⊢;obtain⟨vs,h1,D⟩:=r;exact⟨vs,h1,vU h Y cs _ D⟩
 |.fn f aT,v,r=>by
   simp only[aD]at r ⊢;obtain⟨vs,h1,D⟩:=r;exact⟨vs,h1,vU h Y aT _ D⟩
 |.own d,v,r=>by
   simp only[aD]at r ⊢;obtain⟨rfl,D⟩:=r;rcases Y d with e|e
   ·rw[e]at D;simp[jX]at D
   ·exact⟨e.symm,D⟩
 |.ep d,v,r=>by
   simp only[aD]at r ⊢;obtain⟨rfl,D⟩:=r;rcases Y d with e|e
   ·rw[e]at D;simp[nN]at D
   ·exact⟨e.symm,D⟩
 |.ptr d off,v,r=>by
   simp only[aD]at r ⊢;obtain⟨b,h1,D⟩:=r;rcases Y d with e|e
   ·rw[e]at h1;simp[cV]at h1
   ·exact⟨b,by rw[e];exact h1,D⟩
 |.fH k d,v,r=>by
   simp only[aD]at r ⊢;rcases Y d with e|e
   ·rw[e]at r;exact(azU r).elim
   ·rw[e];exact r
def vU{I bm:bP}{β β':Nat→Value}(h:dc I bm)(Y:h8 β β'):∀(x:List W) (v:fK),cw I β x v→cw bm β' x v
 |[],_,r=>r
 |x::xs,v,r=>by
   simp only[cw]at r ⊢;obtain⟨aq,b8,h1,D,aj⟩:=r;exact⟨aq,b8,h1,Dm h Y x aq D,vU h Y xs b8 aj⟩
end
mutual
def W.refs(p:Nat→Bool):W→Bool
 |.agg cs=>pU p cs
 |.dm cs=>pU p cs
 |.fn _ cs=>pU p cs
 |.own d=>p d
 |.ptr d _=>p d
 |.fH _ d=>p d
 |.ep d=>p d
 |_=>false
def pU(p:Nat→Bool):List W→Bool
 |[]=>false
 |x::r=>x.refs p||pU p r
end
mutual
def xk{I:bP}{β β':Nat→Value}{p:Nat→Bool}(Y:∀d,p d=false→β' d=β d):∀(x:W) (v:Value),x.refs p=false→aD I β x v→aD I β' x v
 |.ig,_,_,_=>trivial
 |.undef,v,_,r=>by simp only[aD]at r ⊢;exact r
 |.int _ _,v,_,r=>by simp only[aD]at r ⊢;exact r
 |.bool _,v,_,r=>by simp only[aD]at r ⊢;exact r
 |.str _,v,_,r=>by simp only[aD]at r ⊢;exact r
 |.bf _ _,v,_,r=>by simp only[aD]at r ⊢;exact r
 |.gP _,v,_,r=>by simp only[aD]at r ⊢;exact r
 |.dh,v,_,r=>by simp only[aD]at r ⊢;exact r
 |.og,v,_,r=>by simp only[aD]at r ⊢;exact r
 |.h9 _ _,v,_,r=>by simp only[aD]at r ⊢;exact r
 |.l7,v,_,r=>by simp only[aD]at r ⊢;exact r
 |.ec _,v,_,r=>by simp only[aD]at r ⊢;exact r
 |.arr _,v,_,r=>by simp only[aD]at r ⊢;exact r
 |.agg cs,v,e,r=>by
   simp only[aD,W.refs]at r e ⊢;obtain⟨vs,h1,D⟩:=r;exact⟨vs,h1,G1 Y cs _ e D⟩
 |.dm cs,v,e,r=>by
   simp only[aD,W.refs]at r e ⊢;obtain⟨vs,h1,D⟩:=r;exact⟨vs,h1,G1 Y cs _ e D⟩
 |.fn f aT,v,e,r=>by
   simp only[aD,W.refs]at r e ⊢;obtain⟨vs,h1,D⟩:=r;exact⟨vs,h1,G1 Y aT _ e D⟩
 |.own d,v,e,r=>by
   simp only[aD,W.refs]at r e ⊢;rw[Y d e];exact r
 |.ep d,v,e,r=>by
   simp only[aD,W.refs]at r e ⊢;rw[Y d e];exact r
 |.ptr d off,v,e,r=>by
   simp only[aD,W.refs]at r e ⊢;rw[Y d e];exact r
 |.fH k d,v,e,r=>by
   simp only[aD,W.refs]at r e ⊢;rw[Y d e];exact r
def G1{I:bP}{β β':Nat→Value}{p:Nat→Bool}(Y:∀d,p d=false→β' d=β d):∀(x:List W) (v:fK),pU p x=false→cw I β x v→cw I β' x v
 |[],_,_,r=>r
 |x::xs,v,e,r=>by
   simp only[cw,pU,Bool.or_eq_false_iff]at r e ⊢;obtain⟨aq,b8,h1,D,aj⟩:=r;exact⟨aq,b8,h1,xk Y x aq e.1 D,G1 Y xs b8 e.2 aj⟩
end
inductive hE where
 |sl (T:TypeId) (sz:Nat) (xs:List (List W))
 |mp (K E:TypeId) (bO:List (W×W))
inductive c4 where
 |cells (T:TypeId) (cs:List W)
 |slice (T:TypeId) (sz:Nat) (xs:List (List W)) (k:Nat) (dO:Bool)
 |map (K E:TypeId) (bO:List (W×W))
 |win (T:TypeId) (sz:Nat) (xs:List (List W))
 |mO (K E:TypeId) (bO:List (W×W))
 |ij (es:gx) (clock:Nat) (K E:TypeId) (bO:List (W×W))
 |iter (gV r9 mc:Nat) (seen:pQ)
 |hdr (gV n:Nat)
 |cO (dy:List hE)
 |e5 (T:TypeId) (e n:Nat) (gI:Option (nZ×Nat))
 |nO (K E:TypeId) (e:Nat) (mu:List W) (gI:Option (nZ×Nat)) (fx:Option (gx×Nat))
 |ic (T:TypeId) (xs:List (List W)) (t:Nat)
 |vec (T:TypeId) (xs:cN)
 |jd (es:gx) (clock:Nat) (bO:List (W×W)) (seen:pQ)
abbrev ag:=List (Nat×c4)
def ag.get:ag→Nat→Option c4
 |[],_=>none
 |(k,v)::r,n=>bif Nat.beq k n then some v else ag.get r n
abbrev an:=List (Nat×W)
def an.get:an→Nat→W
 |[],_=>.ig
 |(k,v)::r,n=>bif Nat.beq k n then v else an.get r n
def an.put(env:an)(d:nZ)(v:W):an:=match d with|some t=>(t,v)::env|none=>env
def axI(k:Nat)(v:W)(r:an)(n:Nat):an.get ((k,v)::r) n=if k=n then v else an.get r n:=by
 simp only[an.get];by_cases h:k=n
 ·subst h;simp
 ·have:Nat.beq k n=false:=by rw[←Bool.not_eq_true,Nat.beq_eq];exact h
  simp[this,h]
def axp(k:Nat)(v:c4)(r:ag)(n:Nat):ag.get ((k,v)::r) n=if k=n then some v else ag.get r n:=by
 simp only[ag.get];by_cases h:k=n
 ·subst h;simp
 ·have:Nat.beq k n=false:=by rw[←Bool.not_eq_true,Nat.beq_eq];exact h
  simp[this,h]
mutual
def mo:Value→W
 |.int k n=>.int k n
 |.bool b=>.bool b
 |.string s=>.str s
 |.slice none 0 0=>.dh
 |.pointer none=>.og
 |.agg ⟨cs⟩=>.agg (qL cs)
 |_=>.ig
def qL:fK→List W
 |[]=>[]
 |x::r=>mo x::qL r
end
mutual
def R6(I:bP)(β:Nat→Value):∀v,aD I β (mo v) v
 |.int k n=>by simp[mo,aD,bk]
 |.bool b=>by simp[mo,aD,bk]
 |.string s=>by simp[mo,aD,bk]
 |.slice none 0 0=>by simp[mo,aD,bk]
 |.slice none 0 (n+1)=>by simp[mo,aD]
 |.slice none (m+1) n=>by simp[mo,aD]
 |.slice (some a) m n=>by simp[mo,aD]
 |.pointer none=>by simp[mo,aD,bk]
 |.pointer (some a)=>by simp[mo,aD]
 |.agg ⟨cs⟩=>by simp only[mo,aD];exact⟨_,rfl,K1 I β cs⟩
 |.float _ _=>by simp[mo,aD]
 |.complex _ _ _=>by simp[mo,aD]
 |.map _=>by simp[mo,aD]
 |.chan _=>by simp[mo,aD]
 |.func _ _ _=>by simp[mo,aD]
 |.nilFunc=>by simp[mo,aD]
 |.iface _ _=>by simp[mo,aD]
 |.nilIface=>by simp[mo,aD]
 |.tuple _=>by simp[mo,aD]
def K1(I:bP)(β:Nat→Value):∀vs,cw I β (qL vs) vs
 |[]=>by simp[qL,cw]
 |x::r=>by simp only[qL,cw];exact⟨x,r,rfl,R6 I β x,K1 I β r⟩
end
def an.ev(env:an):Operand→W
 |.tmp t=>env.get t
 |.const v=>mo v
 |.func f=>.fn f []
 |.global _=>.ig
structure c7 where
 P:Program
 N:Nat
 ids:ei
structure gj where
 B:Nat
 w0:World
 I0:bP
 z6:ei
 x3:Nat→Value
def Place(cx:gj)(b:Nat):Prop:=cx.B≤b∨b∈cx.z6
def l1(cx:gj)(I:bP)(w:World):hE→Value→Prop
 |.sl T sz xs,v=>(v=.slice none 0 0∧xs=[])∨
   ∃b aT arr,v=.slice (some ⟨b,0,none⟩) xs.length aT∧xs.length≤aT∧aT≤maxLen∧w.heap[b]?=some (.cells arr T (0,0))∧arr.size=aT*sz∧
    cD I xs.flatten (arr.toList.take (xs.length*sz))∧(∀e∈xs,e.length=sz)∧(∀o:Nat,I b o=none)∧Place cx b
 |.mp _ _ bO,v=>∃r es clock,v=.map (some r)∧w.heap[r]?=some (.map es clock)∧gm I bO es.toList∧(∀o,I r o=none)∧Place cx r∧k9 es clock
def jv(cx:gj)(I:bP)(w:World):List hE→fK→Prop
 |[],vs=>vs=[]
 |x::r,vs=>∃aq b8,vs=aq::b8∧l1 cx I w x aq∧(∀b,cV aq=some b→b∉b8.filterMap cV)∧jv cx I w r b8
def lz(β:Nat→Value)(Z dU:fK):Option (nZ×Nat)→Prop
 |none=>dU=Z
 |some (none,_)=>dU=Z
 |some (some i,t)=>i<Z.length∧β t≠.nilFunc∧dU=Z.set i (β t)
def DY(I:bP):List W→fK→oe→Prop
 |[],vs,es=>vs=[]∧es=[]
 |k::ks,vs,es=>∃v b8 e it,vs=v::b8∧es=e::it∧bk I k e.key∧e.val=v∧DY I ks b8 it
def br(cx:gj)(I:bP)(β:Nat→Value)(w:World)(d:Nat):c4→Prop
  |.cells T cs=>β d=.nilFunc∨∃b arr,β d=.pointer (some ⟨b,0,none⟩)∧w.heap[b]?=some (.cells arr T (0,0))∧cw I β cs arr.toList∧(∀o,I b o=none)∧Place cx b
  |.slice T sz xs k dO=>β d=.nilFunc∨(β d=.slice none 0 0∧xs=[]∧k=0)∨
      ∃b aT arr,β d=.slice (some ⟨b,0,none⟩) xs.length aT∧xs.length≤aT∧aT≤maxLen∧w.heap[b]?=some (.cells arr T (0,0))∧arr.size=aT*sz∧
        cD I xs.flatten (arr.toList.take (xs.length*sz))∧(∀e∈xs,e.length=sz)∧k≤xs.length∧
        (dO=true→∀o,o<xs.length*sz→I b o=arr[o]?)∧(∀o,k*sz≤o→I b o=none)∧Place cx b
  |.map _ _ bO=>β d=.nilFunc∨∃r es clock,β d=.map (some r)∧w.heap[r]?=some (.map es clock)∧gm I bO es.toList∧(∀o,I r o=none)∧Place cx r∧k9 es clock
  |.mO _ _ bO=>β d=.nilFunc∨∃r es clock,β d=.map (some r)∧I r none=some (qe es clock)∧gm I bO es.toList∧Place cx r∧k9 es clock
  |.ij es clock _ _ bO=>β d=.nilFunc∨∃r,β d=.map (some r)∧w.heap[r]?=some (.map es clock)∧gm I bO es.toList∧(∀o,I r o=none)∧Place cx r∧k9 es clock
  |.iter gV r9 mc seen=>β d=.nilFunc∨∃r ha,β d=.pointer (some ⟨r,0,none⟩)∧cV (β gV)=some ha∧w.heap[r]?=some (.mapIter (some ha) r9 seen mc)∧(∀o,I r o=none)∧Place cx r
  |.hdr gV n=>β d=.pointer none∧∃a c,β gV=.slice a n c
  |.cO dy=>β d=.nilFunc∨∃Z:jj,β d=.tuple Z∧jv cx I w dy Z.toList
  |.e5 T e n gI=>β d=.nilFunc∨∃b aT arr Z,β d=.slice (some ⟨b,0,none⟩) n aT∧n≤aT∧aT≤maxLen∧w.heap[b]?=some (.cells arr T (0,0))∧arr.size=aT∧
        β e=.tuple Z∧Z.size=n∧lz β Z.toList (arr.toList.take n) gI∧(∀o:Nat,I b o=none)∧Place cx b
  |.nO _ _ e mu gI fx=>β d=.nilFunc∨∃r es clock Z dU,β d=.map (some r)∧w.heap[r]?=some (.map es clock)∧β e=.tuple Z∧lz β Z.toList dU gI∧DY I mu dU es.toList∧
        (∀o,I r o=none)∧Place cx r∧k9 es clock∧(∀q,fx=some q→q=(es,clock))
  |.ic T xs t=>β d=.nilFunc∨∃b aT arr,β d=.slice (some ⟨b,0,none⟩) (xs.length+1) aT∧xs.length+1≤aT∧aT≤maxLen∧w.heap[b]?=some (.cells arr T (0,0))∧arr.size=aT∧
        cD I xs.flatten (arr.toList.take xs.length)∧(∀e∈xs,e.length=1)∧arr[xs.length]?=some (β t)∧β t≠.nilFunc∧(∀o:Nat,I b o=none)∧Place cx b
  |.vec T xs=>β d=.nilFunc∨∃b arr,β d=.pointer (some ⟨b,0,none⟩)∧w.heap[b]?=some (.cells arr T (0,0))∧arr.toList=xs.map (Value.int .i64)∧(∀o,I b o=none)∧Place cx b
  |.jd es clock bO seen=>β d=.nilFunc∨∃r ha,β d=.pointer (some ⟨r,0,none⟩)∧w.heap[r]?=some (.mapIter (some ha) clock seen clock)∧I ha none=some (qe es clock)∧gm I bO es.toList∧k9 es clock∧(∀o,I r o=none)∧Place cx r
  |.win T sz xs=>β d=.nilFunc∨(β d=.slice none 0 0∧xs=[])∨
      ∃b o0 aT arr,β d=.slice (some ⟨b,o0,none⟩) xs.length aT∧xs.length≤aT∧aT≤maxLen∧w.heap[b]?=some (.cells arr T (0,0))∧(xs.length<aT→o0+aT*sz≤arr.size)∧
        jF I b xs o0∧(∀e∈xs,e.length=sz)∧(xs.length<aT→∀o,o0+xs.length*sz≤o→I b o=none)∧Place cx b
variable {cx:gj}{w:World}
def l1.go{q4:gj}{bm:bP}{w':World}{x:hE}{v:Value}(hle:dc I bm)(Y:∀b,cV v=some b→(b<w.heap.size→w'.heap[b]?=w.heap[b]?)∧(∀o,bm b o=I b o)∧(Place cx b→Place q4 b))(h:l1 cx I w x v):l1 q4 bm w' x v:=by
 cases x with
 |sl T sz xs=>
  rcases h with h|⟨b,aT,arr,h1,D,aj,aV,b4,dz,fz,hv,hc⟩
  ·exact .inl h
  ·obtain⟨cZ,c8,h3⟩:=Y b (by rw[h1];rfl);exact .inr ⟨b,aT,arr,h1,D,aj,(cZ (Array.getElem?_eq_some_iff.1 aV).1).trans aV,b4,ov hle _ _ dz,fz,λo=>(c8 o).trans (hv o),h3 hc⟩
 |mp K E bO=>
  obtain⟨r,es,clock,h1,D,aj,aV,b4,dz⟩:=h;obtain⟨cZ,c8,h3⟩:=Y r (by rw[h1];rfl);exact⟨r,es,clock,h1,(cZ (Array.getElem?_eq_some_iff.1 D).1).trans D,nA hle _ _ aj,λo=>(c8 o).trans (aV o),h3 b4,dz⟩
def jv.go{cx q4:gj}{I bm:bP}{w w':World}(hle:dc I bm):∀{dy:List hE} {vs:fK},(∀b∈vs.filterMap cV,(b<w.heap.size→w'.heap[b]?=w.heap[b]?)∧(∀o,bm b o=I b o)∧(Place cx b→Place q4 b))→jv cx I w dy vs→jv q4 bm w' dy vs
 |[],_,_,h=>h
 |x::r,vs,Y,h=>by
  obtain⟨aq,b8,rfl,h1,D,aj⟩:=h;refine⟨aq,b8,rfl,h1.go hle λb kD=>Y b ?_,D,jv.go hle (λb h5=>Y b ?_) aj⟩
  ·simp[kD]
  ·rw[filterMap_cons];split
   ·exact h5
   ·exact mem_cons_of_mem _ h5
def DY.mono{I bm:bP}(hle:dc I bm):∀{ks:List W} {vs:fK} {es:oe},DY I ks vs es→DY bm ks vs es
 |[],_,_,h=>h
 |k::ks,vs,es,h=>by
  obtain⟨v,b8,e,it,h1,D,aj,aV,b4⟩:=h;exact⟨v,b8,e,it,h1,D,kI hle k _ aj,aV,DY.mono hle b4⟩
variable {β β':Nat→Value}
def lz.hle{Z dU:fK}{gI:Option (nZ×Nat)}(Y:h8 β β')(h:lz β Z dU gI):lz β' Z dU gI:=by
 cases gI with
 |none=>exact h
 |some q=>
  obtain⟨i,t⟩:=q;cases i with
  |none=>exact h
  |some i=>
   obtain⟨h1,D,aj⟩:=h;rcases Y t with e|e
   ·exact absurd e D
   ·exact⟨h1,by rw[e];exact D,by rw[e];exact aj⟩
def br.heap{cx:gj}{I:bP}{β:Nat→Value}{w w':World}{d:Nat}{o:c4}(e:w'.heap=w.heap)(h:br cx I β w d o):br cx I β w' d o:=by
 cases o with
 |cO dy=>
  simp only[br]at h ⊢;rcases h with q|⟨Z,ay,aG⟩
  ·exact .inl q
  ·exact .inr ⟨Z,ay,aG.go (dc.refl I) λb _=>⟨λ_=>by rw[e],λ_=>rfl,id⟩⟩
 |_=>simpa only[br,e]using h
def bP.on(I:bP)(f:Nat→Nat→Option Value):bP:=λb o=>match o with
 |none=>I b none
 |some o=>f b o
structure cG(G:c7)(cx:gj)(I:bP)(β:Nat→Value)(σ:ag)(w:World):Prop where
 good:∀b (o:Nat) v,I b o=some v→w.cell? ⟨b,o,none⟩=some v
 iU:∀b v,I b none=some v→∃es clock,w.heap[b]?=some (.map es clock)∧v=qe es clock
 ku:dc cx.I0 I
 jY:∀b,b<cx.B→b∉cx.z6→∀o,I b o=cx.I0 b o
 frame:∀b,b<cx.B→b∉cx.z6→w.heap[b]?=cx.w0.heap[b]?
 size:cx.B≤w.heap.size
 tape:w.tape=cx.w0.tape
 os:w.os=cx.w0.os
 output:w.output=cx.w0.output
 drawn:cx.w0.drawn≤w.drawn
 dK:∀d o,σ.get d=some o→br cx I β w d o
 eN:∀d fT,(σ.get d).isSome→(σ.get fT).isSome→d≠fT→∀b∈e4 (β d),b∉e4 (β fT)
 keep:∀d∈G.ids,β d=cx.x3 d
def mN(P:Program)(Φ:Value→World→Prop):Result Next→Prop
 |.ok (.value v) w'=>Φ v w'
 |.ok .skip w'=>Φ undef w'
 |.ok (.enter f args) w'=>Calls P f args w' (λe vo=>∃v,e=.returned v∧Φ v vo)
 |_=>False
def mN.wp{P:Program}{o:Oper}{a:Act}{w:World}{Φ:Value→World→Prop}{K:Act→World→Prop}{Q:Exit→Act→World→Prop}
  (h:mN P Φ ((execOp a.eval o).run P w)) (hk:∀v w',Φ v w'→K (a.put o.dst v) w'):o.wp P a w K Q:=by
 unfold Oper.wp;generalize (execOp a.eval o).run P w=r at h;cases r with
 |halt x w'=>exact h.elim
 |ok n w'=>
  cases n<;>simp only[mN]at h<;>simp only[Oper.upon]
  case value v=>exact hk _ _ h
  case skip=>exact hk _ _ h
  case enter f args=>
   exact Calls.mono h λe vo ⟨v,he,ai⟩=>by subst he;exact hk _ _ ai
def Yields(G:c7)(o:Oper)(ev:Operand→W)(σ:ag)(ew R:ei)(bZ:W):Prop:=
 ∀(aL:ag) (cx:gj) (I:bP) (β:Nat→Value) (w:World) (bp:Operand→Value),(∀d∈R,aL.get d=σ.get d)→cG G cx I β aL w→(∀d∈ew,β d=.nilFunc)→
  (∀x∈o.op.operands,aD I β (ev x) (bp x))→
  mN G.P (λv w'=>∃bm β',aD bm β' bZ v∧cG G cx bm β' aL w'∧dc I bm∧(∀d,d∉ew→β' d=β d)) ((execOp bp o).run G.P w)
def hK(G:c7)(o:Oper)(ev:Operand→W)(σ:ag)(M news:ei)(Φ:W→ag→Prop):Prop:=
 ∀(cx:gj) (I:bP) (β:Nat→Value) (w:World) (bp:Operand→Value),cG G cx I β σ w→(∀x∈o.op.operands,aD I β (ev x) (bp x))→
  mN G.P (λv w'=>∃bZ aL bm β',Φ bZ aL∧aD bm β' bZ v∧cG G cx bm β' aL w'∧dc I bm∧(∀d,d∉news→β' d=β d)∧(∀d,d∉M→aL.get d=σ.get d)) ((execOp bp o).run G.P w)
mutual
def RJ{p:Nat→Bool}(h:∀d,p d=false):∀x:W,x.refs p=false
 |.ig|.undef|.int _ _|.bool _|.str _|.bf _ _|.gP _|.dh|.og|.h9 _ _|.l7|.ec _|.arr _=>rfl
 |.agg cs=>by simp only[W.refs];exact yL h cs
 |.dm cs=>by simp only[W.refs];exact yL h cs
 |.fn _ cs=>by simp only[W.refs];exact yL h cs
 |.own d=>h d
 |.ptr d _=>h d
 |.fH _ d=>h d
 |.ep d=>h d
def yL{p:Nat→Bool}(h:∀d,p d=false):∀x:List W,pU p x=false
 |[]=>rfl
 |x::r=>by simp only[pU,RJ h x,yL h r,Bool.or_self]
end
def an.clean(p:Nat→Bool):an→Bool
 |[]=>true
 |(_,v)::r=>!v.refs p&&an.clean p r
def pE(p:Nat→Bool):c4→Bool
 |.cells _ cs=>pU p cs
 |.iter gV _ _ _=>p gV
 |.hdr gV _=>p gV
 |.e5 _ e _ h=>p e||(match h with|some (_,t)=>p t|none=>false)
 |.nO _ _ e _ h _=>p e||(match h with|some (_,t)=>p t|none=>false)
 |.ic _ _ t=>p t
 |_=>false
def ag.clean(p:Nat→Bool):ag→Bool
 |[]=>true
 |(d,v)::r=>!p d&&!pE p v&&ag.clean p r
def axT{p:Nat→Bool}:∀{env:an},env.clean p=true→∀t,(env.get t).refs p=false
 |[],_,t=>by simp[an.get,W.refs]
 |(k,v)::r,h,t=>by
   simp only[an.clean,Bool.and_eq_true,Bool.not_eq_true']at h;rw[axI];split
   ·exact h.1
   ·exact axT h.2 t
def axC{p:Nat→Bool}:∀{σ:ag},σ.clean p=true→∀d o,σ.get d=some o→p d=false∧pE p o=false
 |[],_,d,o,e=>by simp[ag.get]at e
 |(k,v)::r,h,d,o,e=>by
   simp only[ag.clean,Bool.and_eq_true,Bool.not_eq_true']at h;rw[axp]at e;split at e
   ·rename_i hk;subst hk;cases e;exact⟨h.1.1,h.1.2⟩
   ·exact axC h.2 d o e
def ax0(e:an):e.clean ([]:ei).contains=true:=by
 induction e with
 |nil=>rfl
 |cons x r bX=>simp only[an.clean,bX,RJ (p:=([]:ei).contains) (λ_=>rfl) x.2,Bool.not_false,Bool.and_self]
def ax3(e:ag):e.clean ([]:ei).contains=true:=by
 induction e with
 |nil=>rfl
 |cons x r bX=>
  have:pE ([]:ei).contains x.2=false:=by
   obtain⟨d,o⟩:=x;cases o with
   |cells T cs=>exact yL (λ_=>rfl) _
   |e5 T e n h=>cases h<;>rfl
   |nO K E e mu h fx=>cases h<;>rfl
   |_=>rfl
  simp only[ag.clean,bX,this];rfl
def Wk:c4→Bool
 |.hdr _ _=>false
 |_=>true
def zC(G:c7)(σ:ag)(ew:ei)(σ2:ag)(env:an):Prop:=
 (∀d,d∉ew→σ2.get d=σ.get d)∧(∀d∈ew,d∉G.ids)∧env.clean ew.contains=true∧σ.clean ew.contains=true∧∀d∈ew,∀gV n,σ2.get d≠some (.hdr gV n)
def ax6(G:c7)(σ:ag)(env:an):zC G σ [] σ env:=⟨λ_ _=>rfl,λ_ h=>by simp at h,ax0 env,ax3 σ,λ_ h=>by simp at h⟩
def hL(β:Nat→Value)(ew:ei):Nat→Value:=λd=>if d∈ew then .nilFunc else β d
def br.beta{d:Nat}{o:c4}{p:Nat→Bool}(Y:∀d,p d=false→β' d=β d)(aa:p d=false)(he:pE p o=false)
  (h:br cx I β w d o):br cx I β' w d o:=by
 cases o with
 |cells T cs=>
  simp only[br,Y d aa]at h ⊢;rcases h with h|⟨b,arr,h1,D,aj,aV⟩
  ·exact .inl h
  ·exact .inr ⟨b,arr,h1,D,G1 Y cs _ he aj,aV⟩
 |slice T sz xs k dO=>simpa only[br,Y d aa]using h
 |map K E bO=>simpa only[br,Y d aa]using h
 |win T sz xs=>simpa only[br,Y d aa]using h
 |mO K E bO=>simpa only[br,Y d aa]using h
 |ij es clock K E bO=>simpa only[br,Y d aa]using h
 |iter gV r9 mc seen=>simpa only[br,Y d aa,Y gV he]using h
 |hdr gV n=>simpa only[br,Y d aa,Y gV he]using h
 |cO dy=>simpa only[br,Y d aa]using h
 |ic T xs t=>simpa only[br,Y d aa,Y t he]using h
 |vec T xs=>simpa only[br,Y d aa]using h
 |jd es clock bO seen=>simpa only[br,Y d aa]using h
 |e5 T e n gI=>
  simp only[pE,Bool.or_eq_false_iff]at he
  have ct:∀Z dU,lz β' Z dU gI↔lz β Z dU gI:=λZ dU=>by
   cases gI with
   |none=>exact Iff.rfl
   |some q=>obtain⟨i,t⟩:=q;cases i<;>simp only[lz,Y t he.2]
  simpa only[br,Y d aa,Y e he.1,ct]using h
 |nO K E e mu gI fx=>
  simp only[pE,Bool.or_eq_false_iff]at he
  have ct:∀Z dU,lz β' Z dU gI↔lz β Z dU gI:=λZ dU=>by
   cases gI with
   |none=>exact Iff.rfl
   |some q=>obtain⟨i,t⟩:=q;cases i<;>simp only[lz,Y t he.2]
  simpa only[br,Y d aa,Y e he.1,ct]using h
def cG.rY{G:c7}{σ σ2:ag}{ew:ei}{env:an}(h:cG G cx I β σ w)(v:zC G σ ew σ2 env):
  cG G cx I (hL β ew) σ2 w:=by
 obtain⟨g2,iP,v3,v4,v5⟩:=v
 have Y:∀d,ew.contains d=false→hL β ew d=β d:=λd aa=>by
  have:d∉ew:=by simpa using aa
  simp[hL,this]
 have be:∀d,d∈ew→hL β ew d=.nilFunc:=λd aa=>by simp[hL,aa]
 refine{h with dK:=λd o e=>?_,eN:=λd fT e dW di b=>?_,keep:=λd aa=>?_}
 ·by_cases hm:d∈ew
  ·cases o with
   |hdr gV n=>exact absurd e (v5 d hm gV n)
   |_=>simp only[br];exact .inl (be d hm)
  ·rw[g2 d hm]at e;obtain⟨aN,bw⟩:=axC v4 d o e;exact(h.dK d o e).beta Y aN bw
 ·by_cases hm:d∈ew
  ·simp[be d hm,Rc]
  ·by_cases mH:fT∈ew
   ·simp[be fT mH,Rc]
   ·rw[g2 d hm]at e;rw[g2 fT mH]at dW;rw[Y d (by simpa using hm),Y fT (by simpa using mH)];exact h.eN d fT e dW di b
 ·have:d∉ew:=λhm=>iP d hm aa;rw[Y d (by simpa using this)];exact h.keep d aa
def jR(ops:lp)(o:Oper)(env:an):Prop:=
 match o.guard with
 |none=>True
 |some (j,want)=>∃eE hA,ops[j]?=some eE∧eE.dst=some hA∧env.get hA=.bool want
def mP(ops:lp)(o:Oper)(env:an):Prop:=
 match o.guard with
 |none=>False
 |some (j,want)=>∃eE hA,ops[j]?=some eE∧eE.dst=some hA∧(env.get hA=.bool (!want)∨env.get hA=.undef)
structure ll where
 gp:Bool
 T:rK
 es:ei
def sQ(s:ll)(e:Nat)(M:ei):List (Nat×ei)→Bool
 |[]=>true
 |(i,R)::r=>((s.T.getD e []).contains i||R.all (λd=>!M.contains d))&&sQ s e M r
def gG(G:c7)(ops:lp)(s:ll):List (Nat×ei)→ei→an→ag→(an→ag→Prop)→Prop
 |_,[],env,σ,K=>K env σ
 |log,i::l,env,σ,K=>∃o,ops[i]?=some o∧
   ((mP ops o env∧(s.gp=true→i∉s.es)∧gG G ops s ((i,[])::log) l (env.put o.dst .undef) σ K)∨
    (jR ops o env∧(s.gp=true→i∉s.es)∧∃ew R bZ σ2,zC G σ ew σ2 env∧(∀d∈R,(σ2.get d).isSome)∧(∀d∈ew,d∈R)∧Yields G o env.ev σ2 ew R bZ∧
     gG G ops s ((i,R)::log) l (env.put o.dst bZ) σ2 K)∨
    (jR ops o env∧(s.gp=true→i∈s.es)∧∃M news Φ,hK G o env.ev σ M news Φ∧(s.gp=true→sQ s i M log=true)∧env.clean news.contains=true∧(∀d∈news,d∉G.ids∧σ.get d=none)∧
     ∀bZ aL,Φ bZ aL→gG G ops s log l (env.put o.dst bZ) aL K)∨
    (mP ops o env∧(s.gp=true→i∈s.es)∧gG G ops s log l (env.put o.dst .undef) σ K))
def l2(I:bP)(β:Nat→Value)(env:an)(a:Act):Prop:=∀t,aD I β (env.get t) (a.tmps.getD t undef)
def l2.ev{I:bP}{β:Nat→Value}{env:an}{a:Act}(h:l2 I β env a)(x:Operand):aD I β (env.ev x) (a.eval x):=by
 cases x with
 |tmp t=>exact h t
 |const v=>exact R6 I β v
 |global g=>simp[an.ev,aD]
 |func f=>simp[an.ev,Act.eval,aD,cw]
def Dn(a:Act)(d:Nat)(v:Value)(t:Nat)(aa:d<a.tmps.size):(a.put (some d) v).tmps.getD t undef=if d=t then v else a.tmps.getD t undef:=by
 simp only[Act.put];by_cases h:d=t
 ·subst h;simp[Array.getD_eq_getD_getElem?,aa]
 ·simp[h,Array.getD_eq_getD_getElem?,Array.getElem?_setIfInBounds_ne h]
end
section
def qX(G:c7)(cx:gj)(env:an)(σ:ag)(a:Act)(w:World):Prop:=
 ∃I β,cG G cx I β σ w∧l2 I β env a∧a.tmps.size=G.N∧a.defers=[]
def SS{G:c7}{ops:lp}{o:Oper}{env:an}{a:Act}(Z:a.tmps.size=G.N)(m3:∀(j:Nat) (eE:Oper) (d:Nat),ops[j]?=some eE→eE.dst=some d→d<G.N)
  (aC:∀(j:Nat) (want:Bool),o.guard=some (j,want)→∀(eE:Oper) (hA:Nat),ops[j]?=some eE→eE.dst=some hA→∀b,(env.get hA=.bool b→a.tmps.getD hA undef=.bool b)∧(env.get hA=.undef→a.tmps.getD hA undef=undef)) :
  (jR ops o env→Region.wanted o (yielded ops a.tmps)=true)∧(mP ops o env→Region.wanted o (yielded ops a.tmps)=false):=by
 unfold jR mP Region.wanted;cases bQ:o.guard with
 |none=>exact⟨λ_=>rfl,λh=>h.elim⟩
 |some Qk=>
  obtain⟨j,want⟩:=Qk
  have key:∀(eE:Oper) (hA:Nat),ops[j]?=some eE→eE.dst=some hA→∀v,a.tmps.getD hA undef=v→yielded ops a.tmps j=(match v with|.bool b=>some b|_=>none):=by
   intro eE hA h1 D v ai;have cq:=m3 j eE hA h1 D;have:a.tmps[hA]?=some v:=by
    rw[Array.getD_eq_getD_getElem?]at ai;have aj:hA<a.tmps.size:=by omega
    rw[Array.getElem?_eq_getElem aj]at ai ⊢;simpa using ai
   unfold yielded;simp only[h1,Option.bind_some,D,this];cases v<;>rfl
  constructor
  ·rintro⟨eE,hA,h1,D,aj⟩;have:=(aC j want bQ eE hA h1 D want).1 aj;simp only[key eE hA h1 D _ this];simp
  ·rintro⟨eE,hA,h1,D,aj⟩;rcases aj with aj|aj
   ·have:=(aC j want bQ eE hA h1 D (!want)).1 aj;simp only[key eE hA h1 D _ this];cases want<;>rfl
   ·have:=(aC j want bQ eE hA h1 D want).2 aj;simp only[key eE hA h1 D _ this];rfl
def l2.guard{I:bP}{β:Nat→Value}{env:an}{a:Act}(h:l2 I β env a)(d:Nat)(b:Bool):
  (env.get d=.bool b→a.tmps.getD d undef=.bool b)∧(env.get d=.undef→a.tmps.getD d undef=undef):=by
 have:=h d;constructor<;>intro e<;>rw[e]at this<;>simpa [aD,bk]using this
def l2.put{I:bP}{β:Nat→Value}{env:an}{a:Act}{bZ:W}{v:Value}(h:l2 I β env a)(dst:nZ)(aa:∀d,dst=some d→d<a.tmps.size)(ai:aD I β bZ v):
  l2 I β (env.put dst bZ) (a.put dst v):=by
 cases dst with
 |none=>exact h
 |some d=>
  intro t;rw[Dn a d v t (aa d rfl)];simp only[an.put,axI];split
  ·exact ai
  ·exact h t
def zb(a:Act)(dst:nZ)(v:Value):(a.put dst v).tmps.size=a.tmps.size:=by
 cases dst<;>simp[Act.put]
def yM(a:Act)(dst:nZ)(v:Value):(a.put dst v).defers=a.defers:=by
 cases dst<;>simp[Act.put]
def l2.mono{I bm:bP}{β β':Nat→Value}{env:an}{a:Act}(h:l2 I β env a)(hi:dc I bm)(Y:h8 β β'):l2 bm β' env a:=
 λt=>Dm hi Y _ _ (h t)
def l2.beta{I:bP}{β β':Nat→Value}{env:an}{a:Act}{p:Nat→Bool}(h:l2 I β env a)(Y:∀d,p d=false→β' d=β d)(ah:env.clean p=true):l2 I β' env a:=
 λt=>xk Y _ _ (axT ah t) (h t)
def Ll(G:c7)(ops:lp)(s:ll)(Q:Exit→Act→World→Prop)(m3:∀(j:Nat) (eE:Oper) (d:Nat),ops[j]?=some eE→eE.dst=some d→d<G.N)(K:an→ag→Prop)(cx:gj)
  (gE:∀env σ a w,K env σ→qX G cx env σ a w→Q .normal a w) :
  ∀(l:ei) (log:List (Nat×ei)) (env:an) (σ:ag) (a:Act) (w:World),gG G ops s log l env σ K→qX G cx env σ a w→wpOps G.P ops Q l a w
 |[],log,env,σ,a,w,h,aC=>gE _ _ _ _ h aC
 |i::l,log,env,σ,a,w,h,aC=>by
  obtain⟨o,ar,h⟩:=h;have zD:∀d,o.dst=some d→d<a.tmps.size:=λd aa=>by obtain⟨_,_,_,_,aj,_⟩:=aC;rw[aj];exact m3 i o d ar aa
  simp only[wpOps,ar];obtain⟨I,β,aA,bU,Z,Az⟩:=aC;have Nq:=SS (o:=o) (env:=env) Z m3 (λj want _ eE hA _ _ b=>bU.guard hA b)
  have skip:∀log,mP ops o env→gG G ops s log l (env.put o.dst .undef) σ K→
    if Region.wanted o (yielded ops a.tmps)=true then o.wp G.P a w (wpOps G.P ops Q l) Q∨o.asks G.P a w∧LetsOut Q else wpOps G.P ops Q l (a.put o.dst undef) w:=by
   intro log PV h;rw[Nq.2 PV];simp only[Bool.false_eq_true,if_false];exact Ll G ops s Q m3 K cx gE l _ _ _ _ _ h ⟨I,β,aA,bU.put _ zD (by simp[aD,bk]),by rw[zb];exact Z,by rw[yM];exact Az⟩
  rcases h with⟨h1,_,D⟩|⟨h1,_,ew,R,bZ,σ2,ai,cz,kR,hI,D⟩|⟨h1,_,M,news,Φ,hl,_,ah,qA,D⟩|⟨h1,_,D⟩
  ·exact skip _ h1 D
  ·rw[Nq.1 h1];simp only[if_true];refine .inl (mN.wp (Φ:=λv w'=>∃bm β',aD bm β' bZ v∧cG G cx bm β' σ2 w'∧dc I bm∧(∀d,d∉ew→β' d=hL β ew d)) ?_ ?_)
   ·have ng:=aA.rY ai
    have Y:∀d,ew.contains d=false→hL β ew d=β d:=λd aa=>by
     have:d∉ew:=by simpa using aa
     simp[hL,this]
    exact hI σ2 cx I (hL β ew) w a.eval (λ_ _=>rfl) ng (λd aa=>by simp[hL,aa]) (λx _=>(bU.beta Y ai.2.2.1).ev x)
   ·rintro v w' ⟨bm,β',uJ,gz,hle,qx⟩
    have Y:∀d,ew.contains d=false→hL β ew d=β d:=λd aa=>by
     have:d∉ew:=by simpa using aa
     simp[hL,this]
    have ct:h8 (hL β ew) β':=λd=>by
     by_cases hm:d∈ew
     ·left;simp[hL,hm]
     ·right;exact qx d hm
    exact Ll G ops s Q m3 K cx gE l _ _ _ _ _ D ⟨bm,β',gz,((bU.beta Y ai.2.2.1).mono hle ct).put _ zD uJ,by rw[zb];exact Z,by rw[yM];exact Az⟩
  ·rw[Nq.1 h1];simp only[if_true];refine .inl (mN.wp (hl cx I β w a.eval aA (λx _=>bU.ev x)) ?_);rintro v w' ⟨bZ,aL,bm,β',FU,uJ,gz,hle,qx,_⟩;have apf:l2 bm β' env a:=(bU.beta (p:=news.contains) (λd aa=>qx d (by simpa using aa)) ah).mono hle (h8.refl _);exact Ll G ops s Q m3 K cx gE l _ _ _ _ _ (D bZ aL FU) ⟨bm,β',gz,apf.put _ zD uJ,by rw[zb];exact Z,by rw[yM];exact Az⟩
  ·exact skip _ h1 D
def zh(N:Nat)(ops:lp):Bool:=ops.toList.all λo=>match o.dst with|some d=>Nat.blt d N|none=>true
def St{N:Nat}{ops:lp}(h:zh N ops=true):∀(j:Nat) (eE:Oper) (d:Nat),ops[j]?=some eE→eE.dst=some d→d<N:=by
 intro j eE d aY aa;have hm:eE∈ops.toList:=by simpa using Array.mem_of_getElem? aY
 have:=List.all_eq_true.1 h eE hm;simp only[aa]at this;exact(Iff.of_eq Nat.blt_eq).1 this
def oc(ops:lp)(o:Oper)(t:Nat):Bool:=(o.looksAt ops).contains t
def Ij(s:ll)(i j:Nat)(hn eE:Oper)(ops:lp):Bool:=
 match hn.dst with
 |none=>true
 |some t=>
  (i==j&&(s.es.contains i||!oc ops eE t)) ||
  (!(i==j)&&(!(oc ops eE t)||(s.T.getD j []).contains i||(s.es.contains i&&(s.T.getD i []).contains j)) &&
   (!(eE.dst==some t)||(s.es.contains i&&s.es.contains j&&((s.T.getD j []).contains i||(s.T.getD i []).contains j))))
def xy(s:ll):ei→Bool
 |[]=>true
 |i::l=>l.all (λj=>!(s.T.getD i []).contains j&&!(i==j)&&(!s.es.contains i||(s.T.getD j []).contains i))&&xy s l
def Nr(ops:lp)(T:rK):Bool:=
 (List.range ops.size).all λj=>match ops[j]? with
  |none=>false
  |some eE=>eE.after.toList.all (λe=>!Region.binds .any e||Nat.blt e.on j) &&
    (T.getD j []).all λi=>eE.after.toList.any λe=>Region.binds .any e&&(e.on==i||(T.getD e.on []).contains i)
def Eo(N:Nat)(ops:lp)(s:ll)(l:ei):Bool:=
 zh N ops&&Nr ops s.T&&xy s l&&(List.range ops.size).all (λi=>l.contains i)&&l.all (λi=>Nat.blt i ops.size)&&(s.T.length==ops.size) &&
 (List.range ops.size).all λi=>(List.range ops.size).all λj=>match ops[i]?,ops[j]? with
  |some hn,some eE=>Ij s i j hn eE ops
  |_,_=>true
section any
variable {G:c7}{ops:lp}{s:ll}
structure Stat(G:c7)(ops:Array Oper)(s:ll):Prop where
 dst:∀(j:Nat) (eE:Oper) (d:Nat),ops[j]?=some eE→eE.dst=some d→d<G.N
 down:∀(j:Nat) (eE:Oper),ops[j]?=some eE→∀e∈eE.after,Region.binds .any e=true→e.on<j
 tab:∀(j:Nat) (eE:Oper),ops[j]?=some eE→∀i∈s.T.getD j [],∃e∈eE.after,Region.binds .any e=true∧(e.on=i∨i∈s.T.getD e.on [])
 size:s.T.length=ops.size
 read:∀(i j:Nat) (hn eE:Oper) (t:Nat),ops[i]?=some hn→ops[j]?=some eE→hn.dst=some t→i≠j→oc ops eE t=true→i∈s.T.getD j []∨(i∈s.es∧j∈s.T.getD i [])
 self:∀(j:Nat) (eE:Oper) (t:Nat),ops[j]?=some eE→eE.dst=some t→j∉s.es→oc ops eE t=false
 one:∀(i j:Nat) (hn eE:Oper) (t:Nat),ops[i]?=some hn→ops[j]?=some eE→hn.dst=some t→eE.dst=some t→i≠j→i∈s.es∧j∈s.es
def ayK{l:ei}(h:Eo G.N ops s l=true):Stat G ops s∧xy s l=true∧(∀i,i<ops.size↔i∈l):=by
 simp only[Eo,Bool.and_eq_true,List.all_eq_true,List.mem_range,beq_iff_eq]at h;obtain⟨⟨⟨⟨⟨⟨h1,D⟩,aj⟩,aV⟩,b4⟩,dz⟩,fz⟩:=h;refine⟨{dst:=St h1,down:=?_,tab:=?_,size:=dz,read:=?_,self:=?_,one:=?_},aj,λi=>⟨λhi=>by simpa using aV i hi,λhi=>(Iff.of_eq Nat.blt_eq).1 (b4 i hi)⟩⟩
 ·intro j eE aY e he Y;have uO:j<ops.size:=(Array.getElem?_eq_some_iff.1 aY).1;simp only[Nr,List.all_eq_true,List.mem_range]at D;have:=D j uO;simp only[aY,Bool.and_eq_true,List.all_eq_true]at this;have:=this.1 e (by simpa using he);simp only[Y,Bool.not_true,Bool.false_or]at this;exact(Iff.of_eq Nat.blt_eq).1 this
 ·intro j eE aY i hi;have uO:j<ops.size:=(Array.getElem?_eq_some_iff.1 aY).1;simp only[Nr,List.all_eq_true,List.mem_range]at D;have:=D j uO;simp only[aY,Bool.and_eq_true,List.all_eq_true]at this;have:=this.2 i hi;simp only[List.any_eq_true,Bool.and_eq_true,Bool.or_eq_true,beq_iff_eq]at this;obtain⟨e,he,Y,ct⟩:=this;exact⟨e,by simpa using he,Y,by simpa using ct⟩
 ·intro i j hn eE t hi aY aa di aP;have:=fz i (Array.getElem?_eq_some_iff.1 hi).1 j (Array.getElem?_eq_some_iff.1 aY).1;have Y:(i==j)=false:=by simpa using di
  simp only[hi,aY,Ij,aa,Y,aP,Bool.not_true,Bool.not_false,Bool.true_and,Bool.false_and,Bool.false_or,Bool.or_eq_true,Bool.and_eq_true,false_or]at this;have:=this.1;simpa using this
 ·intro j eE t aY aa kK;have:=fz j (Array.getElem?_eq_some_iff.1 aY).1 j (Array.getElem?_eq_some_iff.1 aY).1;simp only[aY,Ij,aa,BEq.rfl,Bool.true_and,Bool.not_true,Bool.false_and,Bool.or_false,Bool.or_eq_true,List.contains_iff_mem,kK,false_or,Bool.not_eq_true']at this;exact this
 ·intro i j hn eE t hi aY aa eC di;have:=fz i (Array.getElem?_eq_some_iff.1 hi).1 j (Array.getElem?_eq_some_iff.1 aY).1;have Y:(i==j)=false:=by simpa using di
  simp only[hi,aY,Ij,aa,eC,Y,Bool.not_false,Bool.true_and,Bool.false_and,Bool.false_or,Bool.or_eq_true,Bool.and_eq_true,false_or,BEq.rfl,Bool.not_true,Bool.false_eq_true]at this;have:=this.2;simp only[List.contains_iff_mem]at this;exact⟨this.1.1,this.1.2⟩
def Iy(G:c7)(ops:lp)(s:ll)(env:an)(σ:ag)(β:Nat→Value)(log:List (Nat×ei))(i:Nat)(ew:ei):Prop:=
 ∃o bZ,ops[i]?=some o∧i∉s.es∧(∀t,o.dst=some t→env.get t=bZ)∧
  ((mP ops o env∧bZ=.undef∧ew=[])∨
   (jR ops o env∧∃R,Yields G o env.ev σ ew R bZ∧(i,R)∈log∧(∀d∈R,(σ.get d).isSome)∧(∀d∈ew,d∈R∧β d=.nilFunc∧d∉G.ids)))
def EN(I:bP)(β:Nat→Value)(ops:lp)(hg:ei)(env:an)(a:Act):Prop:=
 ∀t,(∀i∈hg,∀o,ops[i]?=some o→o.dst≠some t)→aD I β (env.get t) (a.tmps.getD t undef)
def A3{ez:o8}{j:Nat}:j∈Region.ready .any ops ez↔
  ez.getD j true=false∧∃o,ops[j]?=some o∧∀e∈o.after,Region.binds .any e=true→ez.getD e.on false=true:=mem_ready
def Uq{ez:o8}{i:Nat}(hi:i<ez.size)(b c:Bool):ez.getD i b=ez.getD i c:=by
 simp[Array.getD_eq_getD_getElem?,hi]
def Kq(fM:Stat G ops s){ez:o8}(kT:ez.size=ops.size)
  (iQ:∀j,ez.getD j false=true→∀i∈s.T.getD j [],ez.getD i false=true) {j:Nat} (aY:j∈Region.ready .any ops ez) :
  ∀i∈s.T.getD j [],ez.getD i false=true:=by
 obtain⟨_,o,ar,k5⟩:=A3.1 aY;intro i hi;obtain⟨e,he,Y,h⟩:=fM.tab j o ar i hi;rcases h with h|h
 ·rw[←h];exact k5 e he Y
 ·exact iQ e.on (k5 e he Y) i h
def abL(fM:Stat G ops s){ez:o8}(kT:ez.size=ops.size):∀(n j:Nat),j≤n→j<ops.size→ez.getD j true=false→Region.ready .any ops ez≠[]:=by
 intro n;induction n with
 |zero=>
  intro j aY cq vO
  have:j∈Region.ready .any ops ez:=A3.2 ⟨vO,ops[j],Array.getElem?_eq_getElem cq,λe he Y=>by
   have:=fM.down j _ (Array.getElem?_eq_getElem cq) e he Y;omega⟩
  exact ne_nil_of_mem this
 |succ n bX=>
  intro j aY cq vO;by_cases Jq:∃i,i<j∧ez.getD i true=false
  ·obtain⟨i,h1,D⟩:=Jq;exact bX i (by omega) (by omega) D
  ·have:j∈Region.ready .any ops ez:=A3.2 ⟨vO,ops[j],Array.getElem?_eq_getElem cq,λe he Y=>by
    have aa:=fM.down j _ (Array.getElem?_eq_getElem cq) e he Y;have:¬ez.getD e.on true=false:=λct=>Jq ⟨e.on,aa,ct⟩;rw[Uq (by omega) false true];simpa using this⟩
   exact ne_nil_of_mem this
def ayC{env:an}{dst:nZ}{bZ:W}{x:Operand}(h:∀t,dst=some t→x≠.tmp t):(env.put dst bZ).ev x=env.ev x:=by
 cases dst with
 |none=>rfl
 |some d=>
  cases x with
  |tmp t=>simp only[an.put,an.ev,axI];rw[if_neg (λe=>h d rfl (by rw[e]))]
  |_=>rfl
def ax7{env:an}{dst:nZ}{bZ:W}{t:Nat}(h:dst≠some t):(env.put dst bZ).get t=env.get t:=by
 cases dst with
 |none=>rfl
 |some d=>simp only[an.put,axI];rw[if_neg (λe=>h (by rw[e]))]
def R7{o:Oper}{t:Nat}(h:(Operand.tmp t)∈o.op.operands):oc ops o t=true:=by
 simp only[oc,List.contains_iff_mem,Oper.looksAt];exact List.mem_append_left _ (List.mem_filterMap.2 ⟨.tmp t,by simpa using h,rfl⟩)
def aa3{o eE:Oper}{j:Nat}{want:Bool}{t:Nat}(bQ:o.guard=some (j,want))(aY:ops[j]?=some eE)(bU:eE.dst=some t):oc ops o t=true:=by
 simp[oc,Oper.looksAt,bQ,aY,bU]
def Yields.ev{o:Oper}{ev yd:Operand→W}{σ:ag}{ew R:ei}{bZ:W}(h:∀x∈o.op.operands,yd x=ev x)(ak:Yields G o ev σ ew R bZ):Yields G o yd σ ew R bZ:=
 λaL cx I β w bp h1 D aj aV=>ak aL cx I β w bp h1 D aj (λx u=>by rw[←h x u];exact aV x u)
def Yields.Z4{o:Oper}{ev:Operand→W}{σ σ2:ag}{ew R:ei}{bZ:W}(h:∀d∈R,σ2.get d=σ.get d)(ak:Yields G o ev σ ew R bZ):Yields G o ev σ2 ew R bZ:=
 λaL cx I β w bp h1 D aj aV=>ak aL cx I β w bp (λd aa=>(h1 d aa).trans (h d aa)) D aj aV
def jR.put{o:Oper}{env:an}{dst:nZ}{bZ:W}(h:∀t,dst=some t→oc ops o t=false):(jR ops o env→jR ops o (env.put dst bZ))∧(mP ops o env→mP ops o (env.put dst bZ)):=by
 unfold jR mP;cases bQ:o.guard with
 |none=>exact⟨id,id⟩
 |some Qk=>
  obtain⟨j,want⟩:=Qk;constructor<;>(rintro⟨eE,hA,h1,D,aj⟩;refine⟨eE,hA,h1,D,?_⟩;rw[ax7 (λe=>by have:=h hA e;rw[aa3 bQ h1 D]at this;cases this)];exact aj)
def Iy.put{env:an}{σ σ2:ag}{β gC:Nat→Value}{log Zx:List (Nat×ei)}{i:Nat}{ew:ei}{dst:nZ}{bZ:W}(h:Iy G ops s env σ β log i ew)
  (aa:∀o,ops[i]?=some o→∀t,dst=some t→oc ops o t=false∧o.dst≠some t)
  (zF:∀x∈log,x∈Zx) (cz:∀R,(i,R)∈log→∀d∈R,(σ.get d).isSome→σ2.get d=σ.get d) (hm:∀d∈ew,(σ.get d).isSome→β d=.nilFunc→gC d=.nilFunc) :
  Iy G ops s (env.put dst bZ) σ2 gC Zx i ew:=by
 obtain⟨o,alY,ar,kK,uJ,h⟩:=h;refine⟨o,alY,ar,kK,λt bU=>?_,?_⟩
 ·rw[ax7 (λe=>(aa o ar t e).2 bU)];exact uJ t bU
 ·have aP:∀t,dst=some t→oc ops o t=false:=λt e=>(aa o ar t e).1;rcases h with⟨h1,D⟩|⟨h1,R,hI,Js,Ct,yC⟩
  ·exact .inl ⟨(jR.put aP).2 h1,D⟩
  ·refine .inr ⟨(jR.put aP).1 h1,R,?_,zF _ Js,λd eC=>?_,λd eC=>?_⟩
   ·refine(hI.ev λx u=>?_).Z4 (λd eC=>cz R Js d eC (Ct d eC));exact ayC λt e AN=>by have:=aP t e;rw[R7 (AN▸u)]at this;cases this
   ·rw[cz R Js d eC (Ct d eC)];exact Ct d eC
   ·obtain⟨ay,aG,a1⟩:=yC d eC;exact⟨ay,hm d eC (Ct d ay) aG,a1⟩
def EN.ev{I:bP}{β:Nat→Value}{hg:ei}{env:an}{a:Act}(h:EN I β ops hg env a){o:Oper}
  (aK:∀i∈hg,∀hn,ops[i]?=some hn→∀t,hn.dst=some t→oc ops o t=false):∀x∈o.op.operands,aD I β (env.ev x) (a.eval x):=by
 intro x u;cases x with
 |tmp t=>
  refine h t λi hi hn sA aa=>?_;have:=aK i hi hn sA t aa;rw[R7 u]at this;cases this
 |const v=>exact R6 I β v
 |global g=>simp[an.ev,aD]
 |func f=>simp[an.ev,Act.eval,aD,cw]
def EN.want{I:bP}{β:Nat→Value}{hg:ei}{env:an}{a:Act}(fM:Stat G ops s)(Z:a.tmps.size=G.N)(h:EN I β ops hg env a){o:Oper}
  (aK:∀i∈hg,∀hn,ops[i]?=some hn→∀t,hn.dst=some t→oc ops o t=false) :
  (jR ops o env→Region.wanted o (yielded ops a.tmps)=true)∧(mP ops o env→Region.wanted o (yielded ops a.tmps)=false):=by
 refine SS Z fM.dst λj want bQ eE hA h1 D b=>?_
 have:=h hA λi hi hn sA aa=>by
  have:=aK i hi hn sA hA aa;rw[aa3 bQ h1 D]at this;cases this
 constructor<;>intro e<;>rw[e]at this<;>simpa [aD,bk]using this
def Su{e:Nat}{M:ei}:∀{log:List (Nat×ei)},sQ s e M log=true→∀i R,(i,R)∈log→i∈s.T.getD e []∨∀d∈R,d∉M
 |[],_,_,_,hm=>by simp at hm
 |(k,S)::r,h,i,R,hm=>by
  simp only[sQ,Bool.and_eq_true,Bool.or_eq_true,List.contains_iff_mem,List.all_eq_true]at h;rcases mem_cons.1 hm with e|hm
  ·cases e;rcases h.1 with h1|h1
   ·exact .inl h1
   ·exact .inr λd aa=>by have:=h1 d aa;simpa using this
  ·exact Su h.2 i R hm
structure Inv(G:c7)(ops:Array Oper)(s:ll)(cx:gj)(m:Nat→List Nat)(l hg:List Nat)(ez:Array Bool)(log:List (Nat×List Nat))(env:an)(σ:ag)(a:Act)(w:World)(I:bP)(β:Nat→Value):Prop where
 qf:ez.size=ops.size
 ord:xy s l=true
 uc:∀i,i<ops.size→(ez.getD i true=false↔i∈hg∨i∈l)
 vv:∀i∈hg,i∉l
 nd:hg.Nodup
 pw:∀i∈hg,∀j∈l,j∉s.T.getD i []
 ps:∀i∈hg,i<ops.size
 ls:∀i∈l,i<ops.size
 cl:∀j,ez.getD j false=true→∀i∈s.T.getD j [],ez.getD i false=true
 sR:∀i∈hg,Iy G ops s env σ β log i (m i)
 md:∀i∈hg,∀j∈hg,i≠j→∀d∈m i,d∉m j
 rw:cG G cx I β σ w
 rp:EN I β ops hg env a
 sz:a.tmps.size=G.N
 df:a.defers=[]
def R2(ez:o8)(i j:Nat)(b:Bool)(hi:i<ez.size):(ez.setIfInBounds i true).getD j b=if i=j then true else ez.getD j b:=by
 by_cases h:i=j
 ·subst h;simp[Array.getD_eq_getD_getElem?,hi]
 ·simp[h,Array.getD_eq_getD_getElem?,Array.getElem?_setIfInBounds_ne h]
section inv
variable {cx:gj}{m:Nat→ei}{l hg:ei}{ez:o8}{log:List (Nat×ei)}{env:an}{σ:ag}{a:Act}{w:World}{I:bP}{β:Nat→Value}
def Inv.R3(inv:Inv G ops s cx m l hg ez log env σ a w I β){i:Nat}(h:i∈hg∨i∈l):ez.getD i false=false:=by
 have hi:i<ops.size:=by rcases h with h|h<;>first|exact inv.ps i h|exact inv.ls i h
 rw[Uq (by rw[inv.qf];exact hi) false true];exact(inv.uc i hi).2 h
def Inv.UU(fM:Stat G ops s)(inv:Inv G ops s cx m l hg ez log env σ a w I β){j:Nat}(aY:j∈Region.ready .any ops ez):
  ∀k,(ez.setIfInBounds j true).getD k false=true→∀i∈s.T.getD k [],(ez.setIfInBounds j true).getD i false=true:=by
 obtain⟨_,o,ar,_⟩:=A3.1 aY;have uO:j<ez.size:=by rw[inv.qf];exact(Array.getElem?_eq_some_iff.1 ar).1
 intro k hk i hi;rw[R2 _ _ _ _ uO]at hk ⊢;split
 ·rfl
 ·split at hk
  ·rename_i h;subst h;exact Kq fM inv.qf inv.cl aY i hi
  ·exact inv.cl k hk i hi
def Inv.RE(fM:Stat G ops s)(inv:Inv G ops s cx m l hg ez log env σ a w I β){j:Nat}{o:Oper}(aY:j∈Region.ready .any ops ez)(ar:ops[j]?=some o)(Ep:j∈hg→j∉s.es):
  ∀i∈hg,∀hn,ops[i]?=some hn→∀t,hn.dst=some t→oc ops o t=false:=by
 intro i hi hn sA t bU;rcases Bool.eq_false_or_eq_true (oc ops o t)with aP|aP
 ·exfalso;by_cases iC:i=j
  ·subst iC;have lY:some hn=some o:=sA.symm.trans ar;cases lY;have:=fM.self i o t sA bU (Ep hi);rw[this]at aP;cases aP
  ·rcases fM.read i j hn o t sA ar bU iC aP with h|⟨h,_⟩
   ·have:=Kq fM inv.qf inv.cl aY i h;rw[inv.R3 (.inl hi)]at this;cases this
   ·obtain⟨_,_,_,kK,_⟩:=inv.sR i hi;exact kK h
 ·exact aP
def Inv.Tg(fM:Stat G ops s)(inv:Inv G ops s cx m l hg ez log env σ a w I β){Q:Exit→Act→World→Prop}{K:Act→World→Prop}{j:Nat}(aY:j∈Region.ready .any ops ez)(p9:j∈hg)
    (k:∀gl w' bm β',Inv G ops s cx m l (hg.erase j) (ez.setIfInBounds j true) log env σ gl w' bm β'→K gl w'):wpOp G.P ops Q j K a w:=by
  obtain⟨o,bZ,ar,kK,uJ,h⟩:=inv.sR j p9;have uO:j<ez.size:=by rw[inv.qf];exact inv.ps j p9
  have w9:=inv.RE fM aY ar (λ_=>kK);have aA:=inv.rp.want fM inv.sz w9;have zD:∀d,o.dst=some d→d<a.tmps.size:=λd aa=>by rw[inv.sz];exact fM.dst j o d ar aa
  have next:∀v w' bm β',aD bm β' bZ v→cG G cx bm β' σ w'→dc I bm→(∀d,d∉m j→β' d=β d)→(∀d∈m j,β d=.nilFunc∨β' d=β d)→Inv G ops s cx m l (hg.erase j) (ez.setIfInBounds j true) log env σ (a.put o.dst v) w' bm β':=by
    intro v w' bm β' jx gz hle Y gr
    have ct:h8 β β':=λd=>by
      by_cases aa:d∈m j
      · exact gr d aa
      · exact .inr (Y d aa)
    refine{qf:=by simp[inv.qf],ord:=inv.ord,uc:=λi hi=>?_,vv:=λi hi=>inv.vv i (List.mem_of_mem_erase hi),nd:=inv.nd.erase j,
           pw:=λi hi=>inv.pw i (List.mem_of_mem_erase hi),ps:=λi hi=>inv.ps i (List.mem_of_mem_erase hi),ls:=inv.ls,cl:=inv.UU fM aY,sR:=λi hi=>?_,
           md:=λi hi k hk=>inv.md i (List.mem_of_mem_erase hi) k (List.mem_of_mem_erase hk),rw:=gz,rp:=λt bU=>?_,sz:=by rw[zb];exact inv.sz,df:=by rw[yM];exact inv.df}
    · rw[R2 _ _ _ _ uO]
      by_cases iC:j=i
      · subst iC
        simp only[if_true,Bool.true_eq_false,false_iff,not_or];exact⟨λh=>(Nodup.mem_erase_iff inv.nd).1 h|>.1 rfl,inv.vv j p9⟩
      · rw[if_neg iC,inv.uc i hi,Nodup.mem_erase_iff inv.nd]
        constructor
        · rintro(h|h)
          · exact .inl ⟨λe=>iC e.symm,h⟩
          · exact .inr h
        · rintro(h|h)
          · exact .inl h.2
          · exact .inr h
    · have n3:=List.mem_of_mem_erase hi
      have iC:i≠j:=λe=>((Nodup.mem_erase_iff inv.nd).1 hi).1 e;obtain⟨hn,al7,ay,aG,a1,aW⟩:=inv.sR i n3;refine⟨hn,al7,ay,aG,a1,?_⟩;rcases aW with aW|⟨aW,R,bt,b1,cE,dA⟩
      · exact .inl aW
      · refine .inr ⟨aW,R,bt,b1,cE,λd aa=>⟨(dA d aa).1,?_,(dA d aa).2.2⟩⟩
        rw[Y d (inv.md i n3 j p9 iC d aa)];exact(dA d aa).2.1
    · by_cases ax:o.dst=some t
      · rw[ax,Dn a t v t (by rw[inv.sz];exact fM.dst j o t ar ax),if_pos rfl,uJ t ax]
        exact jx
      · have:(a.put o.dst v).tmps.getD t undef=a.tmps.getD t undef:=by
          cases aa:o.dst with
          |none=>rfl
          |some d=>rw[Dn a d v t (zD d aa),if_neg (λe=>ax (by rw[aa,e]))]
        rw[this];refine Dm hle ct _ _ (inv.rp t λi hi hn sA=>?_);by_cases iC:i=j
        · subst iC
          rw[ar]at sA;cases sA;exact ax
        · exact bU i ((Nodup.mem_erase_iff inv.nd).2 ⟨iC,hi⟩) hn sA
  unfold wpOp;simp only[ar];rcases h with⟨h1,D⟩|⟨h1,R,hI,zF,Ct,yC⟩
  · rw[aA.2 h1]
    simp only[Bool.false_eq_true,if_false];exact k _ _ _ _ (next undef w I β (by rw[D.1];simp[aD,bk]) inv.rw (dc.refl I) (λ_ _=>rfl) (λ_ _=>.inr rfl))
  · rw[aA.1 h1]
    simp only[if_true];refine .inl (mN.wp (hI σ cx I β w a.eval (λ_ _=>rfl) inv.rw (λd aa=>(yC d aa).2.1) (inv.rp.ev w9)) ?_);rintro v w' ⟨bm,β',jx,gz,hle,Y⟩;exact k _ _ _ _ (next v w' bm β' jx gz hle Y (λd aa=>.inl (yC d aa).2.1))
def Inv.rY(fM:Stat G ops s){i:Nat}(inv:Inv G ops s cx m (i::l) hg ez log env σ a w I β){o:Oper}(ar:ops[i]?=some o)(kK:i∉s.es){ew R:ei}{bZ:W}{σ2:ag}
    (ai:zC G σ ew σ2 env) (aK:(mP ops o env∧bZ=.undef∧ew=[])∨(jR ops o env∧Yields G o env.ev σ2 ew R bZ∧(∀d∈R,(σ2.get d).isSome)∧(∀d∈ew,d∈R))) :
    Inv G ops s cx (λk=>if k=i then ew else m k) l (i::hg) ez ((i,R)::log) (env.put o.dst bZ) σ2 a w I (hL β ew):=by
  have n3:i∉hg:=λh=>inv.vv i h (by simp);have rZ:=inv.ord;simp only[xy,Bool.and_eq_true,List.all_eq_true,Bool.not_eq_true',List.contains_eq_mem,decide_eq_false_iff_not,beq_eq_false_iff_ne]at rZ
  have Y:∀d,ew.contains d=false→hL β ew d=β d:=λd aa=>by
    have:d∉ew:=by simpa using aa
    simp[hL,this]
  have M7:∀d,(σ.get d).isSome→d∉ew:=λd aa hm=>by
    obtain⟨x,u⟩:=Option.isSome_iff_exists.1 aa;have:=(axC ai.2.2.2.1 d x u).1;simp[hm]at this
  have mH:∀p∈hg,(if p=i then ew else m p)=m p:=λp aK=>by
    have:p≠i:=λe=>by subst e;exact n3 aK
    rw[if_neg this]
  refine{qf:=inv.qf,ord:=rZ.2,uc:=λk hk=>?_,vv:=λk hk aP=>?_,nd:=nodup_cons.2 ⟨n3,inv.nd⟩,pw:=λk hk j aY=>?_,ps:=λk hk=>?_,ls:=λk hk=>inv.ls k (by simp[hk]),
         cl:=inv.cl,sR:=λk hk=>?_,md:=λk hk j aY di d aa=>?_,rw:=inv.rw.rY ai,rp:=λt bU=>?_,sz:=inv.sz,df:=inv.df}
  · rw[inv.uc k hk];simp only[mem_cons]
    constructor
    · rintro(h|h|h)
      · exact .inl (.inr h)
      · exact .inl (.inl h)
      · exact .inr h
    · rintro((h|h)|h)
      · exact .inr (.inl h)
      · exact .inl h
      · exact .inr (.inr h)
  · rcases mem_cons.1 hk with rfl|hk
    · exact(rZ.1 k aP).1.2 rfl
    · exact inv.vv k hk (by simp[aP])
  · rcases mem_cons.1 hk with rfl|hk
    · exact(rZ.1 j aY).1.1
    · exact inv.pw k hk j (by simp[aY])
  · rcases mem_cons.1 hk with rfl|hk
    · exact inv.ls k (by simp)
    · exact inv.ps k hk
  · rcases mem_cons.1 hk with rfl|hk
    · have Ep:∀t,o.dst=some t→oc ops o t=false:=λt bU=>fM.self k o t ar bU kK
      refine⟨o,bZ,ar,kK,λt bU=>by simp[bU,an.put,axI],?_⟩;simp only[if_true];rcases aK with⟨h1,D⟩|⟨h1,hI,cz,kR⟩
      · exact .inl ⟨(jR.put Ep).2 h1,D⟩
      · refine .inr ⟨(jR.put Ep).1 h1,R,hI.ev (λx u=>ayC λt e AN=>?_),by simp,cz,λd aa=>⟨kR d aa,by simp[hL,aa],ai.2.1 d aa⟩⟩
        have:=Ep t e;rw[R7 (AN▸u)]at this;cases this
    · rw[mH k hk]
      refine(inv.sR k hk).put (λok j3 t bU=>?_) (λx u=>by simp[u]) (λat6 Fm d aa Z=>ai.1 d (M7 d Z)) (λd aa Z be=>by rw[Y d (by simpa using M7 d Z)];exact be);have rD:i≠k:=λe=>n3 (e▸hk);constructor
      · rcases Bool.eq_false_or_eq_true (oc ops ok t)with aP|aP
        · rcases fM.read i k o ok t ar j3 bU rD aP with h|⟨h,_⟩
          · exact absurd h (inv.pw k hk i (by simp))
          · exact absurd h kK
        · exact aP
      · exact λe=>kK (fM.one i k o ok t ar j3 bU e rD).1
  · have key:∀p∈hg,∀d∈m p,d∉ew:=λp aK d aa=>by
      obtain⟨_,_,_,_,_,q⟩:=inv.sR p aK;rcases q with q|⟨_,_,_,_,xC,q⟩
      · rw[q.2.2]at aa;simp at aa
      · exact M7 d (xC d (q d aa).1)
    rcases mem_cons.1 hk with cL|sx
    · subst cL
      rcases mem_cons.1 aY with OX|h6
      · exact absurd OX.symm di
      · simp only[if_true]at aa
        rw[mH j h6];exact λh=>key j h6 d h aa
    · rw[mH k sx]at aa
      rcases mem_cons.1 aY with OX|h6
      · subst OX
        simp only[if_true];exact key k sx d aa
      · rw[mH j h6]
        exact inv.md k sx j h6 di d aa
  · have ax:o.dst≠some t:=bU i (by simp) o ar
    rw[ax7 ax];exact xk Y _ _ (axT ai.2.2.1 t) (inv.rp t λk hk=>bU k (by simp[hk]))
def Inv.Cm(fM:Stat G ops s){i:Nat}(inv:Inv G ops s cx m (i::l) hg ez log env σ a w I β){o:Oper}(ar:ops[i]?=some o)(kK:i∈s.es)(aC:i∈Region.ready .any ops ez){M news:ei}{bZ:W}{aL:ag}
    (zF:sQ s i M log=true) (ah:env.clean news.contains=true) (qA:∀d∈news,d∉G.ids∧σ.get d=none) {v:Value} {w':World} {bm:bP} {β':Nat→Value}
    (jx:aD bm β' bZ v) (gz:cG G cx bm β' aL w') (hle:dc I bm) (Y:∀d,d∉news→β' d=β d) (kR:∀d,d∉M→aL.get d=σ.get d) :
    Inv G ops s cx m l hg (ez.setIfInBounds i true) log (env.put o.dst bZ) aL (a.put o.dst v) w' bm β':=by
  have n3:i∉hg:=λh=>inv.vv i h (by simp);have aoC:i<ez.size:=by rw[inv.qf];exact inv.ls i (by simp)
  have rZ:=inv.ord;simp only[xy,Bool.and_eq_true,List.all_eq_true,Bool.not_eq_true',List.contains_eq_mem,decide_eq_false_iff_not,beq_eq_false_iff_ne]at rZ;have FO:=Kq fM inv.qf inv.cl aC
  have Y2:∀p∈hg,p∉s.T.getD i []:=λp aK ct=>by
    have:=FO p ct;rw[inv.R3 (.inl aK)]at this;cases this
  have zD:∀d,o.dst=some d→d<a.tmps.size:=λd aa=>by rw[inv.sz];exact fM.dst i o d ar aa
  refine{qf:=by simp[inv.qf],ord:=rZ.2,uc:=λk hk=>?_,vv:=λk hk aP=>inv.vv k hk (by simp[aP]),nd:=inv.nd,pw:=λk hk j aY=>inv.pw k hk j (by simp[aY]),ps:=inv.ps,ls:=λk hk=>inv.ls k (by simp[hk]),
         cl:=inv.UU fM aC,sR:=λk hk=>?_,md:=inv.md,rw:=gz,rp:=λt bU=>?_,sz:=by rw[zb];exact inv.sz,df:=by rw[yM];exact inv.df}
  · rw[R2 _ _ _ _ aoC]
    by_cases yw:i=k
    · subst yw
      simp only[if_true,Bool.true_eq_false,false_iff,not_or];exact⟨n3,λh=>(rZ.1 i h).1.2 rfl⟩
    · rw[if_neg yw,inv.uc k hk]
      simp only[mem_cons];constructor
      · rintro(h|h|h)
        · exact .inl h
        · exact absurd h.symm yw
        · exact .inr h
      · rintro(h|h)
        · exact .inl h
        · exact .inr (.inr h)
  · have rD:i≠k:=λe=>n3 (e▸hk)
    have aoH:k∉s.es:=by obtain⟨_,_,_,q,_⟩:=inv.sR k hk;exact q
    refine(inv.sR k hk).put (λok j3 t bU=>?_) (λx u=>u) (λR cz d aa Z=>?_) (λd aa Z Ju=>?_)
    · constructor
      · rcases Bool.eq_false_or_eq_true (oc ops ok t)with aP|aP
        · rcases fM.read i k o ok t ar j3 bU rD aP with h|⟨_,h⟩
          · exact absurd h (inv.pw k hk i (by simp))
          · exact absurd h (Y2 k hk)
        · exact aP
      · exact λe=>aoH (fM.one i k o ok t ar j3 bU e rD).2
    · rcases Su zF k R cz with h|h
      · exact absurd h (Y2 k hk)
      · exact kR d (h d aa)
    · have k6:d∉news:=λh=>by rw[(qA d h).2]at Z;cases Z
      rw[Y d k6];exact Ju
  · by_cases ax:o.dst=some t
    · rw[ax,Dn a t v t (zD t ax),if_pos rfl]
      simp only[an.put,axI,if_true];exact jx
    · rw[ax7 ax]
      have:(a.put o.dst v).tmps.getD t undef=a.tmps.getD t undef:=by
        cases aa:o.dst with
        |none=>rfl
        |some d=>rw[Dn a d v t (zD d aa),if_neg (λe=>ax (by rw[aa,e]))]
      rw[this];exact Dm hle (h8.refl _) _ _ (xk (p:=news.contains) (λd aa=>Y d (by simpa using aa)) _ _ (axT ah t) (inv.rp t bU))
end inv
def adm(fM:Stat G ops s)(hdr:s.gp=true)(Q:Exit→Act→World→Prop)(K:an→ag→Prop)(cx:gj)
  (gE:∀env σ a w,K env σ→qX G cx env σ a w→Q .normal a w) :
  ∀(fuel:Nat) (l hg:ei) (m:Nat→ei) (ez:o8) (log:List (Nat×ei)) (env:an) (σ:ag) (a:Act) (w:World) (I:bP) (β:Nat→Value),
   hg.length+l.length=fuel→Inv G ops s cx m l hg ez log env σ a w I β→gG G ops s log l env σ K→wpAny G.P .any ops Q fuel ez a w:=by
 intro fuel;induction fuel with
 |zero=>
  intro l hg m ez log env σ a w I β eH inv ah;have aK:hg=[]:=eq_nil_of_length_eq_zero (by omega);have aP:l=[]:=eq_nil_of_length_eq_zero (by omega);subst aK aP;refine⟨?_,gE env σ a w ah ⟨I,β,inv.rw,λt=>inv.rp t (by simp),inv.sz,inv.df⟩⟩;apply eq_nil_iff_forall_not_mem.2;intro j aY;obtain⟨h1,o,ar,_⟩:=A3.1 aY;have:=(inv.uc j (Array.getElem?_eq_some_iff.1 ar).1).1 h1;simp at this
 |succ fuel bX=>
  intro l
  have ZC:∀{l hg:ei} {m:Nat→ei} {ez:o8} {log:List (Nat×ei)} {env:an} {σ:ag} {a:Act} {w:World} {I:bP} {β:Nat→Value},hg.length+l.length=fuel+1→
    Inv G ops s cx m l hg ez log env σ a w I β→Region.ready .any ops ez≠[]:=by
   intro l hg m ez log env σ a w I β eH inv;have:∃p,p∈hg∨p∈l:=by
    cases hg with
    |nil=>cases l with
     |nil=>simp at eH
     |cons p _=>exact⟨p,.inr (by simp)⟩
    |cons p _=>exact⟨p,.inl (by simp)⟩
   obtain⟨p,aK⟩:=this;have Jx:p<ops.size:=by rcases aK with h|h<;>first|exact inv.ps p h|exact inv.ls p h
   exact abL fM inv.qf _ p (Nat.le_refl _) Jx ((inv.uc p Jx).2 aK)
  induction l with
  |nil=>
   intro hg m ez log env σ a w I β eH inv ah;refine⟨λaC=>absurd aC (ZC eH inv),λj aY=>?_⟩;obtain⟨vO,o,ar,_⟩:=A3.1 aY;have p9:j∈hg:=by simpa using (inv.uc j (Array.getElem?_eq_some_iff.1 ar).1).1 vO
   refine inv.Tg fM aY p9 λgl w' bm β' Qg=>bX _ _ _ _ _ _ _ _ _ _ _ ?_ Qg ah;rw[length_erase_of_mem p9];have:=length_pos_of_mem p9;omega
  |cons i l Zo=>
   intro hg m ez log env σ a w I β eH inv ah;obtain⟨o,ar,rB⟩:=ah;have ah:gG G ops s log (i::l) env σ K:=⟨o,ar,rB⟩;have YX:(i::hg).length+l.length=fuel+1:=by simp at eH ⊢;omega
   have BH:∀log:List (Nat×ei),sQ s i [] log=true:=by
    intro log;induction log with
    |nil=>rfl
    |cons x r Qd=>obtain⟨k,R⟩:=x;simp[sQ,Qd]
   have Ur:i∈s.es→(∀(_:i∈Region.ready .any ops ez),wpOp G.P ops Q i (wpAny G.P .any ops Q fuel (ez.setIfInBounds i true)) a w)→wpAny G.P .any ops Q (fuel+1) ez a w:=by
    intro kK Jq;refine⟨λaC=>absurd aC (ZC eH inv),λj aY=>?_⟩;obtain⟨vO,eE,uQ,_⟩:=A3.1 aY;rcases(inv.uc j (Array.getElem?_eq_some_iff.1 uQ).1).1 vO with p9|p8
    ·refine inv.Tg fM aY p9 λgl w' bm β' Qg=>bX _ _ _ _ _ _ _ _ _ _ _ ?_ Qg ah;rw[length_erase_of_mem p9];have:=length_pos_of_mem p9;omega
    ·rcases mem_cons.1 p8 with rfl|p8
     ·exact Jq aY
     ·exfalso;have rZ:=inv.ord;simp only[xy,Bool.and_eq_true,List.all_eq_true,Bool.or_eq_true,Bool.not_eq_true',List.contains_eq_mem,decide_eq_false_iff_not,decide_eq_true_eq]at rZ;have:=(rZ.1 j p8).2.resolve_left (λh=>h kK);have:=Kq fM inv.qf inv.cl aY i this;rw[inv.R3 (.inr (by simp))]at this;cases this
   have Vw:hg.length+l.length=fuel:=by simp at eH;omega
   rcases rB with⟨h1,D,aj⟩|⟨h1,D,ew,R,bZ,σ2,ai,cz,kR,hI,aj⟩|⟨h1,D,M,news,Φ,hl,zF,iQ,qA,aj⟩|⟨h1,D,aj⟩
   ·exact Zo (i::hg) _ ez ((i,[])::log) _ _ a w I _ YX (inv.rY fM ar (D hdr) (ew:=[]) (R:=[]) (ax6 G σ env) (.inl ⟨h1,rfl,rfl⟩)) aj
   ·exact Zo (i::hg) _ ez ((i,R)::log) _ _ a w I _ YX (inv.rY fM ar (D hdr) ai (.inr ⟨h1,hI,cz,kR⟩)) aj
   ·refine Ur (D hdr) λaC=>?_;have w9:=inv.RE fM aC ar (λh=>absurd (D hdr) (by obtain⟨_,_,_,q,_⟩:=inv.sR i h;exact q));have aA:=inv.rp.want fM inv.sz w9;unfold wpOp;simp only[ar];rw[aA.1 h1];simp only[if_true];refine .inl (mN.wp (hl cx I β w a.eval inv.rw (inv.rp.ev w9)) ?_);rintro v w' ⟨bZ,aL,bm,β',FU,jx,gz,hle,Y,anH⟩;exact bX _ _ _ _ _ _ _ _ _ _ _ Vw (inv.Cm fM ar (D hdr) aC (zF hdr) iQ qA jx gz hle Y anH) (aj bZ aL FU)
   ·refine Ur (D hdr) λaC=>?_;have w9:=inv.RE fM aC ar (λh=>absurd (D hdr) (by obtain⟨_,_,_,q,_⟩:=inv.sR i h;exact q));have aA:=inv.rp.want fM inv.sz w9;unfold wpOp;simp only[ar];rw[aA.2 h1];simp only[Bool.false_eq_true,if_false];exact bX _ _ _ _ _ _ _ _ _ _ _ Vw (inv.Cm fM ar (D hdr) aC (M:=[]) (news:=[]) (bZ:=.undef) (BH log) (ax0 env) (by simp) (by simp[aD,bk]) inv.rw (dc.refl I) (λ_ _=>rfl) (λ_ _=>rfl)) aj
end any
end
section
def aF(G:c7)(c:Code)(Q:Exit→an→ag→Prop)(env:an)(σ:ag):Prop:=
 ∀cx a w,qX G cx env σ a w→c.wp G.P (λe gl w'=>∃hh aL,qX G cx hh aL gl w'∧Q e hh aL) a w
def aF.mono{G:c7}{c:Code}{Q Eg:Exit→an→ag→Prop}{env:an}{σ:ag}(h:aF G c Q env σ)(cA:∀e env σ,Q e env σ→Eg e env σ):aF G c Eg env σ:=
 λcx a w aC=>wp_mono (h cx a w aC) λ_ _ _ ⟨hh,aL,h1,D⟩=>⟨hh,aL,h1,cA _ _ _ D⟩
section code
variable {G:c7}{Q:Exit→an→ag→Prop}{env:an}{σ:ag}
def A.skip(h:Q .normal env σ):aF G .skip Q env σ:=λ_ _ _ aC=>wp_skip ⟨env,σ,aC,h⟩
def A.exit{id:Nat}(h:Q (.exit id) env σ):aF G (.exit id) Q env σ:=λ_ _ _ aC=>wp_exit ⟨env,σ,aC,h⟩
def A.ret(h:Q .ret env σ):aF G .ret Q env σ:=λ_ _ _ aC=>wp_ret ⟨env,σ,aC,h⟩
def ve(next:an→ag→Prop)(Q:Exit→an→ag→Prop):Exit→an→ag→Prop
 |.normal,env,σ=>next env σ
 |e,env,σ=>Q e env σ
def A.seq{x y:Code}(h:aF G x (ve (aF G y Q) Q) env σ):aF G (.seq x y) Q env σ:=by
 intro cx a w aC;refine wp_seq (wp_mono (h cx a w aC) ?_);rintro e gl w' ⟨hh,aL,qC,cA⟩;cases e with
 |normal=>exact cA cx gl w' qC
 |_=>exact⟨hh,aL,qC,cA⟩
def UW(id:Nat)(Q:Exit→an→ag→Prop):Exit→an→ag→Prop
 |.exit F4,env,σ=>bif Nat.beq F4 id then Q .normal env σ else Q (.exit F4) env σ
 |e,env,σ=>Q e env σ
def A.block{id:Nat}{x:Code}(h:aF G x (UW id Q) env σ):aF G (.block id x) Q env σ:=by
 intro cx a w aC;refine wp_block (wp_mono (h cx a w aC) ?_);rintro e gl w' ⟨hh,aL,qC,cA⟩;cases e with
 |exit F4=>
  simp only[UW,Exit.inBlock]at cA ⊢;by_cases h:F4=id
  ·subst h;simp at cA ⊢;exact⟨hh,aL,qC,cA⟩
  ·have:Nat.beq F4 id=false:=by rw[←Bool.not_eq_true,Nat.beq_eq];exact h
   simp only[this,cond_false]at cA;rw[if_neg h];exact⟨hh,aL,qC,cA⟩
 |_=>exact⟨hh,aL,qC,cA⟩
def A.cond{c:Operand}{x y:Code}{b:Bool}(ah:env.ev c=.bool b)(bU:b=true→aF G x Q env σ)(bc:b=false→aF G y Q env σ):aF G (.cond c x y) Q env σ:=by
 intro cx a w aC;obtain⟨I,β,h1,D,aj,aV⟩:=aC;have ai:=D.ev c;rw[ah]at ai;simp only[aD,bk]at ai;exact wp_cond_split ai (λe=>bU e cx a w ⟨I,β,h1,D,aj,aV⟩) (λe=>bc e cx a w ⟨I,β,h1,D,aj,aV⟩)
def A.region{id:Nat}{ops:lp}(aa:zh G.N ops=true)(h:gG G ops ⟨false,[],[]⟩ [] (List.range ops.size) env σ (λenv σ=>Q .normal env σ)):aF G (.region id ops false) Q env σ:=by
 intro cx a w aC;exact wp_region (Ll G ops _ _ (St aa) _ cx (λenv σ a w hk aC=>⟨env,σ,aC,hk⟩) _ _ _ _ _ _ h aC)
def cG.drew{G:c7}{cx:gj}{I:bP}{β:Nat→Value}{w:World}(h:cG G cx I β σ w):cG G cx I β σ {w with drawn:=w.drawn+1}:=
 {good:=h.good,iU:=h.iU,ku:=h.ku,jY:=h.jY,frame:=h.frame,size:=h.size,tape:=h.tape,os:=h.os,output:=h.output,drawn:=Nat.le_trans h.drawn (Nat.le_succ _),dK:=λd o aa=>br.heap (w:=w) (w':={w with drawn:=w.drawn+1}) rfl (h.dK d o aa),eN:=h.eN,keep:=h.keep}
def A.any{id:Nat}{ops:lp}(T:rK)(es l:ei)(hm:G.P.follows .mixedOrders=true)(Z:Eo G.N ops ⟨true,T,es⟩ l=true)
    (h:gG G ops ⟨true,T,es⟩ [] l env σ (λenv σ=>Q .normal env σ)):aF G (.region id ops true) Q env σ:=by
  intro cx a w aC;obtain⟨fM,rZ,vL⟩:=ayK Z;obtain⟨I,β,h1,D,aj,aV⟩:=aC
  refine wp_region_any hm (adm fM rfl _ _ cx (λenv σ a w hk aC=>⟨env,σ,aC,hk⟩) ops.size l [] (λ_=>[]) _ [] env σ a _ I β ?_
    {qf:=by simp,ord:=rZ,uc:=λi hi=>?_,vv:=λi hi=>by simp at hi,nd:=nodup_nil,pw:=λi hi=>by simp at hi,ps:=λi hi=>by simp at hi,ls:=λi hi=>(vL i).2 hi,
     cl:=λj aY=>?_,sR:=λi hi=>by simp at hi,md:=λi hi=>by simp at hi,rw:=h1.drew,rp:=λt _=>D t,sz:=aj,df:=aV} h)
  ·
    have nd:∀l:ei,xy ⟨true,T,es⟩ l=true→l.Nodup:=by
      intro l;induction l with
      |nil=>intro _;exact nodup_nil
      |cons i l bX=>
        intro h;simp only[xy,Bool.and_eq_true,List.all_eq_true,Bool.not_eq_true',beq_eq_false_iff_ne]at h;exact nodup_cons.2 ⟨λhi=>(h.1 i hi).1.2 rfl,bX h.2⟩
    have aK:l.Perm (List.range ops.size):=(perm_ext_iff_of_nodup (nd l rZ) nodup_range).2 λi=>by rw[List.mem_range];exact(vL i).symm
    simpa using aK.length_eq
  · simp[Array.getD_eq_getD_getElem?,hi,(vL i).1 hi]
  · simp only[Array.getD_eq_getD_getElem?,Array.getElem?_replicate]at aY
    split at aY<;>simp at aY
def dr(G:c7)(env:an)(σ:ag)(eB:an)(σ2:ag):Prop:=
 ∀cx I β a w,cG G cx I β σ w→l2 I β env a→∃bm β',cG G cx bm β' σ2 w∧l2 bm β' eB a
def dr.refl(G:c7)(env:an)(σ:ag):dr G env σ env σ:=λ_ I β _ _ h dw=>⟨I,β,h,dw⟩
def dr.trans{ud eB:an}{pn σ2:ag}(h:dr G env σ ud pn)(dw:dr G ud pn eB σ2):dr G env σ eB σ2:=λcx I β a w h1 D=>by
 obtain⟨bm,β',aj,aV⟩:=h cx I β a w h1 D;exact dw cx bm β' a w aj aV
def dr.rel{eB:an}{σ2:ag}(h:dr G env σ eB σ2){cx:gj}{a:Act}{w:World}(aC:qX G cx env σ a w):qX G cx eB σ2 a w:=by
 obtain⟨I,β,h1,D,aj,aV⟩:=aC;obtain⟨bm,β',b4,dz⟩:=h cx I β a w h1 D;exact⟨bm,β',b4,dz,aj,aV⟩
def axB{c:Code}{eB:an}{σ2:ag}(h:dr G env σ eB σ2)(k:aF G c Q eB σ2):aF G c Q env σ:=λcx a w aC=>k cx a w (h.rel aC)
def A.loop{c:Code}{α:Type}(hB:α→an)(hG:α→ag)(LW:α→Prop)(μ:α→Nat)(q9:α)(bA:LW q9)(aA:dr G env σ (hB q9) (hG q9))
  (step:∀g,LW g→aF G c (ve (λhh aL=>∃ox,LW ox∧μ ox<μ g∧dr G hh aL (hB ox) (hG ox)) Q) (hB g) (hG g)):aF G (.loop c) Q env σ:=by
 intro cx a w aC b k cs
 have key:∀n g a w,μ g=n→LW g→qX G cx (hB g) (hG g) a w→∃e gl w',(∃hh aL,qX G cx hh aL gl w'∧Q e hh aL)∧
   Arrives G.P (lone (b.at a (.code c::.inLoop c::k)) cs w) b k cs e gl w':=by
  intro n;induction n using Nat.strongRecOn with
  |_ n bX=>
   intro g a w be bQ aC;obtain⟨e,Ch,DU,cA,nh⟩:=step g bQ cx a w aC b (.inLoop c::k) cs;obtain⟨hh,aL,qC,cA⟩:=cA;cases e with
   |normal=>
    obtain⟨ox,uN,cq,apt⟩:=cA;obtain⟨am7,amh,asR,ajJ,aeQ⟩:=bX (μ ox) (be▸cq) ox Ch DU rfl uN (apt.rel qC);exact⟨am7,amh,asR,ajJ,.of_steps (Steps.trans nh (.one step_inLoop)) aeQ⟩
   |exit id=>exact⟨_,Ch,DU,⟨hh,aL,qC,cA⟩,.pass (x:=.inLoop c) rfl (λ_ _=>.inl (by simp)) nh⟩
   |goto l=>exact⟨_,Ch,DU,⟨hh,aL,qC,cA⟩,.pass (x:=.inLoop c) rfl (λ_ _=>.inl (by simp)) nh⟩
   |ret=>exact⟨_,Ch,DU,⟨hh,aL,qC,cA⟩,.pass (x:=.inLoop c) rfl (λ_ _=>.inl (by simp)) nh⟩
   |panic ou=>exact⟨_,Ch,DU,⟨hh,aL,qC,cA⟩,.pass (x:=.inLoop c) rfl (λ_ _=>.inl (by simp)) nh⟩
   |outgrown=>exact⟨_,Ch,DU,⟨hh,aL,qC,cA⟩,.pass (x:=.inLoop c) rfl (λ_ _=>.inl (by simp)) nh⟩
 obtain⟨e,gl,w',cA,nh⟩:=key _ q9 a w rfl bA (aA.rel aC);exact⟨e,gl,w',cA,.of_steps (.one step_loop) nh⟩
end code
mutual
def W.closed:W→Bool
 |.agg cs=>mE cs
 |.dm cs=>mE cs
 |.fn _ cs=>mE cs
 |.own _=>false
 |.ptr _ _=>false
 |.fH _ _=>false
 |.ep _=>false
 |_=>true
def mE:List W→Bool
 |[]=>true
 |x::r=>x.closed&&mE r
end
mutual
def aD.closed{I:bP}{β:Nat→Value}:∀(a:W) (v:Value),a.closed=true→aD I β a v→bk I a v
 |.ig,_,_,_=>trivial
 |.undef,_,_,h=>by simpa only[aD]using h
 |.int _ _,_,_,h=>by simpa only[aD]using h
 |.bool _,_,_,h=>by simpa only[aD]using h
 |.str _,_,_,h=>by simpa only[aD]using h
 |.bf _ _,_,_,h=>by simpa only[aD]using h
 |.gP _,_,_,h=>by simpa only[aD]using h
 |.dh,_,_,h=>by simpa only[aD]using h
 |.og,_,_,h=>by simpa only[aD]using h
 |.h9 _ _,_,_,h=>by simpa only[aD]using h
 |.l7,_,_,h=>by simpa only[aD]using h
 |.ec _,_,_,h=>by simpa only[aD]using h
 |.arr _,_,_,h=>by simpa only[aD]using h
 |.agg cs,v,ah,h=>by
  simp only[bk,aD,W.closed]at h ah ⊢;obtain⟨vs,h1,D⟩:=h;exact⟨vs,h1,cw.closed cs _ ah D⟩
 |.dm cs,v,ah,h=>by
  simp only[bk,aD,W.closed]at h ah ⊢;obtain⟨vs,h1,D⟩:=h;exact⟨vs,h1,cw.closed cs _ ah D⟩
 |.fn f cs,v,ah,h=>by
  simp only[bk,aD,W.closed]at h ah ⊢;obtain⟨vs,h1,D⟩:=h;exact⟨vs,h1,cw.closed cs _ ah D⟩
 |.own _,_,ah,_=>by simp[W.closed]at ah
 |.ptr _ _,_,ah,_=>by simp[W.closed]at ah
 |.fH _ _,_,ah,_=>by simp[W.closed]at ah
 |.ep _,_,ah,_=>by simp[W.closed]at ah
def cw.closed{I:bP}{β:Nat→Value}:∀(a:List W) (v:fK),mE a=true→cw I β a v→cD I a v
 |[],_,_,h=>h
 |x::r,v,ah,h=>by
  simp only[cw,cD,mE,Bool.and_eq_true]at h ah ⊢;obtain⟨aq,b8,h1,D,aj⟩:=h;exact⟨aq,b8,h1,aD.closed x aq ah.1 D,cw.closed r b8 ah.2 aj⟩
end
mutual
inductive jk(σ:ag):W→W→Prop
 |refl (a:W):jk σ a a
 |nil (f:Bool):jk σ .dh (.bf f [])
 |l7:jk σ .l7 (.bf false [])
 |full (xs:List (List W)):jk σ (.bf true xs) (.bf false xs)
 |own {d:Nat} {T:TypeId} {sz k:Nat} {xs:List (List W)} (h:σ.get d=some (.slice T sz xs k true)):jk σ (.own d) (.bf false xs)
 |win {d:Nat} {T:TypeId} {sz:Nat} {xs:List (List W)} (h:σ.get d=some (.win T sz xs)):jk σ (.own d) (.bf false xs)
 |mO {d:Nat} {K E:TypeId} {bO:List (W×W)} (h:σ.get d=some (.mO K E bO)):jk σ (.ep d) (.ec bO)
 |agg {cs oR:List W} (h:n9 σ cs oR):jk σ (.agg cs) (.agg oR)
 |dm {cs oR:List W} (h:n9 σ cs oR):jk σ (.dm cs) (.dm oR)
 |fn {f:Nat} {cs oR:List W} (h:n9 σ cs oR):jk σ (.fn f cs) (.fn f oR)
 |ig (a:W):jk σ a .ig
 |h9 {f:Nat} {a:W} {cs:List W} (h:jk σ a (.fn f cs)) (ah:mE cs=true):jk σ a (.h9 f cs)
inductive n9(σ:ag):List W→List W→Prop
 |nil:n9 σ [] []
 |cons {a b:W} {r s:List W} (h:jk σ a b) (t:n9 σ r s):n9 σ (a::r) (b::s)
end
def G3{I:bP}{b:Nat}:∀(cs:List W) (o:Nat) (vs:fK),cD I cs vs→(∀(j:Nat) v,vs[j]?=some v→I b ((o+j:Nat))=some v)→lu I b cs o
 |[],_,_,_,_=>trivial
 |x::r,o,vs,h,fZ=>by
  simp only[cD]at h;obtain⟨aq,b8,rfl,h1,D⟩:=h;refine⟨⟨aq,by simpa using fZ 0 aq rfl,h1⟩,G3 r (o+1) b8 D λj v ai=>?_⟩;have:=fZ (j+1) v (by simpa using ai)
  rwa [show o+(j+1)=o+1+j from by omega]at this
def mC{I:bP}:∀(xs bD:List W) (vs:fK),cD I (xs++bD) vs↔∃b8 ws,vs=b8++ws∧cD I xs b8∧cD I bD ws
 |[],bD,vs=>by
  simp only[nil_append,cD];exact⟨λh=>⟨[],vs,rfl,rfl,h⟩,λ⟨b8,ws,h1,D,aj⟩=>by subst D;simp at h1;subst h1;exact aj⟩
 |x::r,bD,vs=>by
  simp only[cons_append,cD];constructor
  ·rintro⟨aq,b8,rfl,h1,D⟩;obtain⟨wJ,ws,rfl,aj,aV⟩:=(mC r bD b8).1 D;exact⟨aq::wJ,ws,rfl,⟨aq,wJ,rfl,h1,aj⟩,aV⟩
  ·rintro⟨b8,ws,rfl,⟨aq,wJ,rfl,h1,aj⟩,aV⟩;exact⟨aq,wJ++ws,rfl,h1,(mC r bD _).2 ⟨wJ,ws,rfl,aj,aV⟩⟩
def oT{I:bP}:∀(xs:List W) (vs:fK),cD I xs vs→vs.length=xs.length
 |[],vs,h=>by simp only[cD]at h;subst h;rfl
 |x::r,vs,h=>by
  simp only[cD]at h;obtain⟨aq,b8,rfl,_,D⟩:=h;simp[oT r b8 D]
def tf{I:bP}{β:Nat→Value}:∀(xs:List W) (vs:fK),cw I β xs vs→vs.length=xs.length
 |[],vs,h=>by simp only[cw]at h;subst h;rfl
 |x::r,vs,h=>by
  simp only[cw]at h;obtain⟨aq,b8,rfl,_,D⟩:=h;simp[tf r b8 D]
def AY{I:bP}{b:Nat}:∀(xs:List (List W)) (o:Nat) (vs:fK),cD I xs.flatten vs→(∀(j:Nat) v,vs[j]?=some v→I b ((o+j:Nat))=some v)→jF I b xs o
 |[],_,_,_,_=>trivial
 |e::r,o,vs,h,fZ=>by
  simp only[flatten_cons]at h;obtain⟨b8,ws,rfl,h1,D⟩:=(mC _ _ _).1 h;have aP:=oT _ _ h1
  refine⟨G3 e o b8 h1 λj v ai=>fZ j v (by
    rw[List.getElem?_append_left (by rcases Nat.lt_or_ge j b8.length with dw|dw;exact dw;rw[List.getElem?_eq_none dw]at ai;cases ai)];exact ai),
   AY r (o+e.length) ws D λj v ai=>?_⟩
  have:=fZ (b8.length+j) v (by rw[List.getElem?_append_right (by omega)];simpa using ai)
  rwa [aP,←Nat.add_assoc]at this
section sealing
variable {G:c7}{cx:gj}{I:bP}{β:Nat→Value}{σ:ag}{w:World}
def cG.slice(h:cG G cx I β σ w){d:Nat}{T:TypeId}{sz k:Nat}{xs:List (List W)}(aa:σ.get d=some (.slice T sz xs k true)){v:Value}(ai:aD I β (.own d) v):
  aD I β (.bf false xs) v:=by
 simp only[aD]at ai;obtain⟨rfl,Z⟩:=ai;have:=h.dK d _ aa;simp only[br]at this;rcases this with h1|⟨h1,rfl,_⟩|⟨b,aT,arr,h1,D,aj,aV,b4,dz,fz,hv,hc,kC,m0⟩
 ·rw[h1]at Z;simp[jX]at Z
 ·rw[h1];simp only[aD,bk];exact⟨none,0,rfl,by simp,by simp[maxLen],by simp,by simp⟩
 ·rw[h1];simp only[aD,bk];refine⟨_,aT,rfl,D,aj,by simp,.inr ⟨b,0,rfl,?_⟩⟩;refine AY xs 0 _ dz λj v ai=>?_;rw[Nat.zero_add];rw[getElem?_take]at ai;split at ai
  ·rename_i cq;rw[hc trivial j cq];simpa using ai
  ·cases ai
def cG.win(h:cG G cx I β σ w){d:Nat}{T:TypeId}{sz:Nat}{xs:List (List W)}(aa:σ.get d=some (.win T sz xs)){v:Value}(ai:aD I β (.own d) v):
  aD I β (.bf false xs) v:=by
 simp only[aD]at ai;obtain⟨rfl,Z⟩:=ai;have:=h.dK d _ aa;simp only[br]at this;rcases this with h1|⟨h1,rfl⟩|⟨b,o0,aT,arr,h1,D,aj,aV,b4,dz,fz,hv,hc⟩
 ·rw[h1]at Z;simp[jX]at Z
 ·rw[h1];simp only[aD,bk];exact⟨none,0,rfl,by simp,by simp[maxLen],by simp,by simp⟩
 ·rw[h1];simp only[aD,bk];exact⟨_,aT,rfl,D,aj,by simp,.inr ⟨b,o0,rfl,dz⟩⟩
mutual
def jk.rep(aA:cG G cx I β σ w):∀{a r:W},jk σ a r→∀v,aD I β a v→aD I β r v
 |_,_,.l7,v,h=>by
  simp only[aD,bk]at h ⊢;obtain⟨a,c,aC,ah⟩:=h;exact⟨some a,c,aC,by simp,ah,by simp,by simp⟩
 |_,_,.refl _,_,h=>h
 |_,_,.h9 Z ah,v,h=>by
  have h1:=jk.rep aA Z v h;simp only[aD,bk]at h1 ⊢;obtain⟨vs,D,aj⟩:=h1;exact⟨vs,D,cw.closed _ _ ah aj⟩
 |_,_,.nil f,v,h=>by
  simp only[aD,bk]at h ⊢;exact⟨none,0,h,by simp,by simp[maxLen],by simp,by simp⟩
 |_,_,.full xs,v,h=>by
  simp only[aD,bk]at h ⊢;obtain⟨a,c,h1,D,aj,_,aV⟩:=h;exact⟨a,c,h1,D,aj,by simp,aV⟩
 |_,_,.own aa,v,h=>aA.slice aa h
 |_,_,.win aa,v,h=>aA.win aa h
 |_,_,.mO aa,v,h=>by
  simp only[aD]at h;obtain⟨rfl,hm⟩:=h;have:=aA.dK _ _ aa;simp only[br]at this;rcases this with q|⟨r,es,clock,ay,aG,a1,_,aW⟩
  ·rw[q]at hm;simp[nN]at hm
  ·rw[ay];simp only[aD,bk];exact⟨r,es,clock,rfl,aG,a1,aW⟩
 |_,_,.agg Z,v,h=>by
  simp only[aD]at h ⊢;obtain⟨vs,h1,D⟩:=h;exact⟨vs,h1,n9.rep aA Z _ D⟩
 |_,_,.dm Z,v,h=>by
  simp only[aD]at h ⊢;obtain⟨vs,h1,D⟩:=h;exact⟨vs,h1,n9.rep aA Z _ D⟩
 |_,_,.fn Z,v,h=>by
  simp only[aD]at h ⊢;obtain⟨vs,h1,D⟩:=h;exact⟨vs,h1,n9.rep aA Z _ D⟩
 |_,_,.ig _,v,h=>by simp[aD]
def n9.rep(aA:cG G cx I β σ w):∀{a r:List W},n9 σ a r→∀vs,cw I β a vs→cw I β r vs
 |_,_,.nil,_,h=>h
 |_,_,.cons Z bU,vs,h=>by
  simp only[cw]at h ⊢;obtain⟨aq,b8,h1,D,aj⟩:=h;exact⟨aq,b8,h1,jk.rep aA Z aq D,n9.rep aA bU b8 aj⟩
end
def cG.sub{σ2:ag}(h:cG G cx I β σ w)(Z:∀d o,σ2.get d=some o→σ.get d=some o):cG G cx I β σ2 w:=
  {h with dK:=λd o e=>h.dK d o (Z d o e),
          eN:=λd fT e dW=>by
            obtain⟨o,e⟩:=Option.isSome_iff_exists.1 e;obtain⟨hP,dW⟩:=Option.isSome_iff_exists.1 dW;exact h.eN d fT (by rw[Z d o e];rfl) (by rw[Z fT hP dW];rfl)}
def c4.vA:c4→c4
 |.slice T sz xs _ _=>.slice T sz xs xs.length true
 |.map K E bO=>.mO K E bO
 |o=>o
def ag.freeze(dO:ei):ag→ag
 |[]=>[]
 |(d,o)::r=>(d,bif dO.contains d then o.vA else o)::ag.freeze dO r
def axE(dO:ei):∀(σ:ag) (d:Nat),(ag.freeze dO σ).get d=(σ.get d).map λo=>if d∈dO then o.vA else o
 |[],d=>rfl
 |(k,o)::r,d=>by
  simp only[ag.freeze,axp,axE dO r d];split
  ·rename_i h;subst h;by_cases hm:k∈dO<;>simp[hm]
  ·rfl
def br.Qf{bm:bP}{d b:Nat}{o:c4}(hle:dc I bm)(jE:∀aX o,aX≠b→bm aX o=I aX o)(Vx:∀aX∈e4 (β d),aX≠b)(hd:br cx I β w d o):br cx bm β w d o:=by
 have pM:∀aX,cV (β d)=some aX→aX≠b:=λaX h5=>Vx aX (lF h5);cases o with
 |cO dy=>
  simp only[br]at hd ⊢;rcases hd with q|⟨Z,ay,aG⟩
  ·exact .inl q
  ·exact .inr ⟨Z,ay,aG.go hle λaX h5=>⟨λ_=>rfl,λo=>jE aX o (Vx aX (by rw[ay];exact h5)),id⟩⟩
 |ic T xs t=>
  simp only[br]at hd ⊢;rcases hd with q|⟨aX,aT,arr,ay,aG,a1,aW,bt,b1,cE,dA,ef,eY,gb⟩
  ·exact .inl q
  ·exact .inr ⟨aX,aT,arr,ay,aG,a1,aW,bt,ov hle _ _ b1,cE,dA,ef,λo=>by rw[jE aX o (pM aX (by rw[ay];rfl))];exact eY o,gb⟩
 |vec T xs=>
  simp only[br]at hd ⊢;rcases hd with q|⟨aX,arr,ay,aG,a1,aW,bt⟩
  ·exact .inl q
  ·exact .inr ⟨aX,arr,ay,aG,a1,λo=>by rw[jE aX o (pM aX (by rw[ay];rfl))];exact aW o,bt⟩
 |jd es clock bO seen=>
  simp only[br]at hd ⊢;rcases hd with q|⟨r,ha,ay,aG,a1,aW,bt,b1,cE⟩
  ·exact .inl q
  ·exact .inr ⟨r,ha,ay,aG,hle _ _ _ a1,nA hle _ _ aW,bt,λo=>by rw[jE r o (pM r (by rw[ay];rfl))];exact b1 o,cE⟩
 |e5 T e n gI=>
  simp only[br]at hd ⊢;rcases hd with q|⟨aX,aT,arr,Z,ay,aG,a1,aW,bt,b1,cE,dA,ef,eY⟩
  ·exact .inl q
  ·exact .inr ⟨aX,aT,arr,Z,ay,aG,a1,aW,bt,b1,cE,dA,λo=>by rw[jE aX o (pM aX (by rw[ay];rfl))];exact ef o,eY⟩
 |nO K E e mu gI fx=>
  simp only[br]at hd ⊢;rcases hd with q|⟨r,es,clock,Z,dU,ay,aG,a1,aW,bt,b1,cE,dA⟩
  ·exact .inl q
  ·exact .inr ⟨r,es,clock,Z,dU,ay,aG,a1,aW,bt.mono hle,λo=>by rw[jE r o (pM r (by rw[ay];rfl))];exact b1 o,cE,dA⟩
 |cells T cs=>
  simp only[br]at hd ⊢;rcases hd with q|⟨aX,o7,ay,aG,a1,aW,bt⟩
  ·exact .inl q
  ·exact .inr ⟨aX,o7,ay,aG,vU hle (h8.refl _) _ _ a1,λo=>by rw[jE aX o (pM aX (by rw[ay];rfl))];exact aW o,bt⟩
 |slice bl jh km gK anc=>
  simp only[br]at hd ⊢;rcases hd with q|q|⟨aX,Aa,o7,ay,aG,a1,aW,bt,b1,cE,dA,ef,eY,gb⟩
  ·exact .inl q
  ·exact .inr (.inl q)
  ·have di:=pM aX (by rw[ay];rfl);exact .inr (.inr ⟨aX,Aa,o7,ay,aG,a1,aW,bt,ov hle _ _ b1,cE,dA,λhz o ar=>by rw[jE aX o di];exact ef hz o ar,λo ar=>by rw[jE aX o di];exact eY o ar,gb⟩)
 |win bl jh km=>
  simp only[br]at hd ⊢;rcases hd with q|q|⟨aX,hP,Aa,o7,ay,aG,a1,aW,bt,b1,cE,dA,ef⟩
  ·exact .inl q
  ·exact .inr (.inl q)
  ·have di:=pM aX (by rw[ay];rfl);exact .inr (.inr ⟨aX,hP,Aa,o7,ay,aG,a1,aW,bt,AU hle _ _ _ b1,cE,λhz o ar=>by rw[jE aX o di];exact dA hz o ar,ef⟩)
 |map K E bO=>
  simp only[br]at hd ⊢;rcases hd with q|⟨r,es,clock,ay,aG,a1,aW,bt⟩
  ·exact .inl q
  ·exact .inr ⟨r,es,clock,ay,aG,nA hle _ _ a1,λo=>by rw[jE r o (pM r (by rw[ay];rfl))];exact aW o,bt⟩
 |mO K E bO=>
  simp only[br]at hd ⊢;rcases hd with q|⟨r,es,clock,ay,aG,a1,aW⟩
  ·exact .inl q
  ·exact .inr ⟨r,es,clock,ay,hle _ _ _ aG,nA hle _ _ a1,aW⟩
 |ij es clock K E bO=>
  simp only[br]at hd ⊢;rcases hd with q|⟨r,ay,aG,a1,aW,bt⟩
  ·exact .inl q
  ·exact .inr ⟨r,ay,aG,nA hle _ _ a1,λo=>by rw[jE r o (pM r (by rw[ay];rfl))];exact aW o,bt⟩
 |iter gV r9 mc seen=>
  simp only[br]at hd ⊢;rcases hd with q|⟨r,ha,ay,aG,a1,aW,bt⟩
  ·exact .inl q
  ·exact .inr ⟨r,ha,ay,aG,a1,λo=>by rw[jE r o (pM r (by rw[ay];rfl))];exact aW o,bt⟩
 |hdr gV n=>exact hd
def cG.aeR(h:cG G cx I β σ w)(e:Nat):∃bm,dc I bm∧cG G cx bm β (σ.freeze [e]) w:=by
 cases he:σ.get e with
 |none=>
  refine⟨I,dc.refl I,h.sub λd o aa=>?_⟩;rw[axE]at aa;cases eC:σ.get d with
  |none=>rw[eC]at aa;cases aa
  |some hP=>
   rw[eC]at aa;have:d∉[e]:=by intro hm;simp at hm;subst hm;rw[he]at eC;cases eC
   simp only[Option.map_some,this,if_false]at aa;exact aa
 |some o=>
  have ue:(∀hP,o.vA=hP→hP=o)→∃bm,dc I bm∧cG G cx bm β (σ.freeze [e]) w:=by
   intro AB;refine⟨I,dc.refl I,h.sub λd hP aa=>?_⟩;rw[axE]at aa;cases eC:σ.get d with
   |none=>rw[eC]at aa;cases aa
   |some fS=>
    rw[eC]at aa;simp only[Option.map_some,Option.some.injEq]at aa;split at aa
    ·rename_i hm;simp at hm;subst hm;rw[he]at eC;cases eC;rw[AB hP aa]
    ·rw[aa]
  cases o with
  |cells T cs=>exact ue (λ_ e=>e.symm)
  |mO K E bO=>exact ue (λ_ e=>e.symm)
  |ij es clock K E bO=>exact ue (λ_ e=>e.symm)
  |iter gV r9 mc seen=>exact ue (λ_ e=>e.symm)
  |hdr gV n=>exact ue (λ_ e=>e.symm)
  |win T sz xs=>exact ue (λ_ e=>e.symm)
  |cO dy=>exact ue (λ_ e=>e.symm)
  |e5 T e n gI=>exact ue (λ_ e=>e.symm)
  |ic T xs t=>exact ue (λ_ e=>e.symm)
  |vec T xs=>exact ue (λ_ e=>e.symm)
  |jd es clock bO seen=>exact ue (λ_ e=>e.symm)
  |nO K E e mu gI fx=>exact ue (λ_ e=>e.symm)
  |map K E bO=>
   have ar:=h.dK e _ he;simp only[br]at ar;rcases ar with h1|⟨r,es,clock,h1,D,aj,aV,b4,dz⟩
   ·refine⟨I,dc.refl I,{h with dK:=λd o aa=>?_,eN:=λd fT aa eC=>?_}⟩
    ·rw[axE]at aa;cases eC:σ.get d with
     |none=>rw[eC]at aa;cases aa
     |some fS=>
      rw[eC]at aa;simp only[Option.map_some,Option.some.injEq]at aa;subst aa;split
      ·rename_i hm;simp at hm;subst hm;rw[he]at eC;cases eC;exact .inl h1
      ·exact h.dK d fS eC
    ·rw[axE,Option.isSome_map]at aa eC;exact h.eN d fT aa eC
   ·let bm:bP:=λb o=>if b=r∧o=none then some (qe es clock)else I b o
    have hle:dc I bm:=λb o v ai=>by
     show(if b=r∧o=none then some (qe es clock)else I b o)=some v;split
     ·rename_i ct;obtain⟨rfl,rfl⟩:=ct;rw[aV none]at ai;cases ai
     ·exact ai
    have jE:∀b o,b≠r→bm b o=I b o:=λb o di=>by
     show(if b=r∧o=none then some (qe es clock)else I b o)=_;rw[if_neg (λct=>di ct.1)]
    have Cv:cV (β e)=some r:=by rw[h1];rfl
    refine⟨bm,hle,{good:=λaX o v ai=>?_,iU:=λaX v ai=>?_,ku:=λaX o v ai=>hle _ _ _ (h.ku _ _ _ ai),jY:=λaX Y be o=>?_,frame:=h.frame,size:=h.size,tape:=h.tape,os:=h.os,output:=h.output,drawn:=h.drawn,dK:=λd o aa=>?_,eN:=λd fT aa eC=>?_,keep:=h.keep}⟩
    ·refine h.good aX o v ?_
     change (if aX=r∧some o=none then some (qe es clock)else I aX o)=some v at ai
     rwa [if_neg (by simp)]at ai
    ·change (if aX=r∧none=none then some (qe es clock)else I aX none)=some v at ai
     split at ai
     ·rename_i ct;obtain⟨rfl,_⟩:=ct;exact⟨es,clock,D,(Option.some.inj ai).symm⟩
     ·exact h.iU aX v ai
    ·have di:aX≠r:=λe=>by
      subst e;rcases b4 with q|q
      ·omega
      ·exact be q
     rw[jE aX o di];exact h.jY aX Y be o
    ·rw[axE]at aa;cases eC:σ.get d with
     |none=>rw[eC]at aa;cases aa
     |some fS=>
      rw[eC]at aa;simp only[Option.map_some,Option.some.injEq]at aa;subst aa;by_cases m7:d=e
      ·subst m7;rw[he]at eC;cases eC;simp only[List.mem_singleton,if_true,c4.vA,br];exact .inr ⟨r,es,clock,h1,by show(if r=r∧none=none then some (qe es clock)else I r none)=_;rw[if_pos ⟨rfl,rfl⟩],nA hle _ _ aj,b4,dz⟩
      ·have hm:d∉[e]:=by simpa using m7
       rw[if_neg hm];refine(h.dK d fS eC).Qf hle jE λaX h5 dW=>?_;subst dW;exact h.eN d e (by rw[eC];rfl) (by rw[he];rfl) m7 aX h5 (lF Cv)
    ·rw[axE,Option.isSome_map]at aa eC;exact h.eN d fT aa eC
  |slice T sz xs k dO=>
   have ar:=h.dK e _ he;simp only[br]at ar;rcases ar with h1|⟨h1,rfl,rfl⟩|⟨b,aT,arr,h1,D,aj,aV,b4,dz,fz,hv,hc,kC,m0⟩
   ·refine⟨I,dc.refl I,{h with dK:=λd o aa=>?_,eN:=λd fT aa eC=>?_}⟩
    ·rw[axE]at aa;cases eC:σ.get d with
     |none=>rw[eC]at aa;cases aa
     |some fS=>
      rw[eC]at aa;simp only[Option.map_some,Option.some.injEq]at aa;subst aa;split
      ·rename_i hm;simp at hm;subst hm;rw[he]at eC;cases eC;exact .inl h1
      ·exact h.dK d fS eC
    ·rw[axE,Option.isSome_map]at aa eC;exact h.eN d fT aa eC
   ·refine⟨I,dc.refl I,{h with dK:=λd o aa=>?_,eN:=λd fT aa eC=>?_}⟩
    ·rw[axE]at aa;cases eC:σ.get d with
     |none=>rw[eC]at aa;cases aa
     |some fS=>
      rw[eC]at aa;simp only[Option.map_some,Option.some.injEq]at aa;subst aa;split
      ·rename_i hm;simp at hm;subst hm;rw[he]at eC;cases eC;exact .inr (.inl ⟨h1,rfl,rfl⟩)
      ·exact h.dK d fS eC
    ·rw[axE,Option.isSome_map]at aa eC;exact h.eN d fT aa eC
   ·let bm:bP:=I.on λaX o=>if aX=b∧o<xs.length*sz then arr[o]? else I aX o
    have hle:dc I bm:=λaX o v ai=>by
     cases o with
     |none=>exact ai
     |some o=>
     show(if aX=b∧o<xs.length*sz then arr[o]? else I aX o)=some v;split
     ·rename_i ct;obtain⟨rfl,cq⟩:=ct;have ah:=h.good aX o v ai;simp only[World.cell?,aV]at ah;simpa using ah
     ·exact ai
    have jE:∀aX o,aX≠b→bm aX o=I aX o:=λaX o di=>by
     cases o with
     |none=>rfl
     |some o=>
     show(if aX=b∧o<xs.length*sz then arr[o]? else I aX o)=_;rw[if_neg (λct=>di ct.1)]
    have Cv:cV (β e)=some b:=by rw[h1];rfl
    refine⟨bm,hle,{good:=λaX o v ai=>?_,iU:=h.iU,ku:=λaX o v ai=>hle _ _ _ (h.ku _ _ _ ai),jY:=λaX Y be o=>?_,frame:=h.frame,size:=h.size,tape:=h.tape,os:=h.os,output:=h.output,drawn:=h.drawn,dK:=λd o aa=>?_,eN:=λd fT aa eC=>?_,keep:=h.keep}⟩
    ·change (if aX=b∧o<xs.length*sz then arr[o]? else I aX o)=some v at ai
     split at ai
     ·rename_i ct;obtain⟨rfl,cq⟩:=ct;simp only[World.cell?,aV];simpa using ai
     ·exact h.good aX o v ai
    ·have di:aX≠b:=λe=>by
      subst e;rcases m0 with q|q
      ·omega
      ·exact be q
     rw[jE aX o di];exact h.jY aX Y be o
    ·rw[axE]at aa;cases eC:σ.get d with
     |none=>rw[eC]at aa;cases aa
     |some fS=>
      rw[eC]at aa;simp only[Option.map_some,Option.some.injEq]at aa;subst aa;by_cases m7:d=e
      ·subst m7;rw[he]at eC;cases eC;simp only[List.mem_singleton,if_true,c4.vA,br];refine .inr (.inr ⟨b,aT,arr,h1,D,aj,aV,b4,ov hle _ _ dz,fz,Nat.le_refl _,λ_ o ar=>?_,λo ar=>?_,m0⟩)
       ·show(if b=b∧o<xs.length*sz then arr[o]? else I b o)=_;rw[if_pos ⟨rfl,ar⟩]
       ·show(if b=b∧o<xs.length*sz then arr[o]? else I b o)=_;rw[if_neg (λct=>by omega)];exact kC o (Nat.le_trans (Nat.mul_le_mul_right _ hv) ar)
      ·have hm:d∉[e]:=by simpa using m7
       rw[if_neg hm]
       have pM:∀aX∈e4 (β d),aX≠b:=λaX h5 dW=>by
        subst dW;exact h.eN d e (by rw[eC];rfl) (by rw[he];rfl) m7 aX h5 (lF Cv)
       exact(h.dK d fS eC).Qf hle jE pM
    ·rw[axE,Option.isSome_map]at aa eC;exact h.eN d fT aa eC
def cG.K2(h:cG G cx I β σ w):∀dO:ei,∃bm,dc I bm∧cG G cx bm β (σ.freeze dO) w:=by
 intro dO;induction dO generalizing σ I with
 |nil=>
  refine⟨I,dc.refl I,h.sub λd o aa=>?_⟩;rw[axE]at aa;simpa using aa
 |cons e r bX=>
  obtain⟨Sf,YW,h1⟩:=h.aeR e;obtain⟨Ec,Jt,D⟩:=bX h1;refine⟨Ec,YW.trans Jt,D.sub λd o aa=>?_⟩;rw[axE]at aa;rw[axE,axE];cases eC:σ.get d with
  |none=>rw[eC]at aa;cases aa
  |some fS=>
   rw[eC]at aa;simp only[Option.map_some,Option.some.injEq]at aa ⊢;rw[←aa];have aoo:fS.vA.vA=fS.vA:=by cases fS<;>rfl
   by_cases m7:d=e
   ·subst m7;by_cases aC:d∈r<;>simp[aC,aoo]
   ·by_cases aC:d∈r<;>simp[aC,m7]
end sealing
def dr.freeze(G:c7)(env:an)(σ:ag)(dO:ei):dr G env σ env (σ.freeze dO):=λcx I β a w h dw=>by
 obtain⟨bm,hle,D⟩:=h.K2 dO;exact⟨bm,β,D,dw.mono hle (h8.refl β)⟩
def dr.drop{G:c7}{env eB:an}{σ σ2:ag}(he:∀p∈eB,jk σ (env.get p.1) p.2)(Z:∀p∈σ2,σ.get p.1=some p.2):dr G env σ eB σ2:=λcx I β a w h dw=>by
 have aeS:∀(l:an) t,l.get t=.ig∨∃p∈l,p.1=t∧l.get t=p.2:=by
  intro l;induction l with
  |nil=>exact λ_=>.inl rfl
  |cons x r bX=>
   intro t;obtain⟨k,v⟩:=x;rw[axI];split
   ·rename_i hk;exact .inr ⟨(k,v),by simp,hk,rfl⟩
   ·rcases bX t with h|⟨p,h1,D,aj⟩
    ·exact .inl h
    ·exact .inr ⟨p,by simp[h1],D,aj⟩
 have aeT:∀(l:ag) d o,l.get d=some o→∃p∈l,p.1=d∧p.2=o:=by
  intro l;induction l with
  |nil=>intro d o h;simp[ag.get]at h
  |cons x r bX=>
   intro d o h;obtain⟨k,v⟩:=x;rw[axp]at h;split at h
   ·rename_i hk;injection h with h;exact⟨(k,v),by simp,hk,h⟩
   ·obtain⟨p,h1,D,aj⟩:=bX d o h;exact⟨p,by simp[h1],D,aj⟩
 refine⟨I,β,h.sub λd o aa=>?_,λt=>?_⟩
 ·obtain⟨p,h1,D,aj⟩:=aeT σ2 d o aa;rw[←D,←aj];exact Z p h1
 ·rcases aeS eB t with h1|⟨p,h1,D,aj⟩
  ·rw[h1];simp[aD]
  ·rw[aj];subst D;exact(he p h1).rep h _ (dw p.1)
def axS{G:c7}{c:Code}{Q:Exit→an→ag→Prop}{env:an}{σ:ag}(h:∀cx a w,qX G cx env σ a w→c.wp G.P (λe gl w'=>∃hh aL,qX G cx hh aL gl w'∧Q e hh aL) a w):aF G c Q env σ:=h
def aF.use{G:c7}{c:Code}{Q:Exit→an→ag→Prop}{env:an}{σ:ag}(h:aF G c Q env σ)(cx:gj)(a:Act)(w:World)(aC:qX G cx env σ a w):c.wp G.P (λe gl w'=>∃hh aL,qX G cx hh aL gl w'∧Q e hh aL) a w:=h cx a w aC
attribute [irreducible] aF
end
section
mutual
def W.dG(r:Nat→Nat):W→W
 |.agg cs=>.agg (r0 r cs)
 |.dm cs=>.dm (r0 r cs)
 |.fn f cs=>.fn f (r0 r cs)
 |.own d=>.own (r d)
 |.ptr d o=>.ptr (r d) o
 |.fH k d=>.fH k (r d)
 |.ep d=>.ep (r d)
 |x=>x
def r0(r:Nat→Nat):List W→List W
 |[]=>[]
 |x::t=>x.dG r::r0 r t
end
mutual
def MA{I:bP}{β β':Nat→Value}{r:Nat→Nat}{p:Nat→Bool}(h:∀d,p d=false→β' (r d)=β d):∀(x:W) (v:Value),x.refs p=false→aD I β x v→aD I β' (x.dG r) v
 |.ig,_,_,_=>trivial
 |.undef,v,_,q=>by simp only[aD,W.dG]at q ⊢;exact q
 |.int _ _,v,_,q=>by simp only[aD,W.dG]at q ⊢;exact q
 |.bool _,v,_,q=>by simp only[aD,W.dG]at q ⊢;exact q
 |.str _,v,_,q=>by simp only[aD,W.dG]at q ⊢;exact q
 |.bf _ _,v,_,q=>by simp only[aD,W.dG]at q ⊢;exact q
 |.gP _,v,_,q=>by simp only[aD,W.dG]at q ⊢;exact q
 |.dh,v,_,q=>by simp only[aD,W.dG]at q ⊢;exact q
 |.og,v,_,q=>by simp only[aD,W.dG]at q ⊢;exact q
 |.h9 _ _,v,_,q=>by simp only[aD,W.dG]at q ⊢;exact q
 |.l7,v,_,q=>by simp only[aD,W.dG]at q ⊢;exact q
 |.ec _,v,_,q=>by simp only[aD,W.dG]at q ⊢;exact q
 |.arr _,v,_,q=>by simp only[aD,W.dG]at q ⊢;exact q
 |.agg cs,v,e,q=>by
   simp only[aD,W.dG,W.refs]at q e ⊢;obtain⟨vs,h1,D⟩:=q;exact⟨vs,h1,Ba h cs _ e D⟩
 |.dm cs,v,e,q=>by
   simp only[aD,W.dG,W.refs]at q e ⊢;obtain⟨vs,h1,D⟩:=q;exact⟨vs,h1,Ba h cs _ e D⟩
 |.fn f cs,v,e,q=>by
   simp only[aD,W.dG,W.refs]at q e ⊢;obtain⟨vs,h1,D⟩:=q;exact⟨vs,h1,Ba h cs _ e D⟩
 |.own d,v,e,q=>by
   simp only[aD,W.dG,W.refs]at q e ⊢;rw[h d e];exact q
 |.ep d,v,e,q=>by
   simp only[aD,W.dG,W.refs]at q e ⊢;rw[h d e];exact q
 |.ptr d o,v,e,q=>by
   simp only[aD,W.dG,W.refs]at q e ⊢;rw[h d e];exact q
 |.fH k d,v,e,q=>by
   simp only[aD,W.dG,W.refs]at q e ⊢;rw[h d e];exact q
def Ba{I:bP}{β β':Nat→Value}{r:Nat→Nat}{p:Nat→Bool}(h:∀d,p d=false→β' (r d)=β d):∀(x:List W) (v:fK),pU p x=false→cw I β x v→cw I β' (r0 r x) v
 |[],_,_,q=>q
 |x::xs,v,e,q=>by
   simp only[cw,r0,pU,Bool.or_eq_false_iff]at q e ⊢;obtain⟨aq,b8,h1,D,aj⟩:=q;exact⟨aq,b8,h1,MA h x aq e.1 D,Ba h xs b8 e.2 aj⟩
end
def r1(r:Nat→Nat):Option (nZ×Nat)→Option (nZ×Nat)
 |none=>none
 |some (i,t)=>some (i,r t)
def c4.dG(r:Nat→Nat):c4→c4
 |.cells T cs=>.cells T (r0 r cs)
 |.iter gV r9 mc seen=>.iter (r gV) r9 mc seen
 |.hdr gV n=>.hdr (r gV) n
 |.e5 T e n h=>.e5 T (r e) n (r1 r h)
 |.nO K E e mu h fx=>.nO K E (r e) mu (r1 r h) fx
 |.ic T xs t=>.ic T xs (r t)
 |o=>o
def an.dG(r:Nat→Nat)(env:an):an:=env.map λp=>(p.1,p.2.dG r)
def ag.dG(r:Nat→Nat)(σ:ag):ag:=σ.map λp=>(r p.1,p.2.dG r)
def ayD(r:Nat→Nat):∀(env:an) t,(env.dG r).get t=(env.get t).dG r
 |[],t=>by simp[an.dG,an.get,W.dG]
 |(k,v)::l,t=>by
  have:=ayD r l t;simp only[an.dG]at this ⊢;simp only[map_cons,axI];split
  ·rfl
  ·exact this
def D0(r s:Nat→Nat)(ids:ei)(env:an)(σ:ag):Bool:=
 env.clean (λd=>!Nat.beq (s (r d)) d)&&σ.clean (λd=>!Nat.beq (s (r d)) d)&&ids.all (λd=>Nat.beq (s d) d)
def dr.dG{G:c7}{env:an}{σ:ag}(r s:Nat→Nat)(j3:D0 r s G.ids env σ=true):dr G env σ (env.dG r) (σ.dG r):=λcx I β a w h dw=>by
 simp only[D0,Bool.and_eq_true,List.all_eq_true,Nat.beq_eq]at j3;obtain⟨⟨h1,D⟩,aj⟩:=j3
 have Y:∀d,(!Nat.beq (s (r d)) d)=false→(λx=>β (s x)) (r d)=β d:=λd aa=>by
  have:s (r d)=d:=by simpa using aa
  show β (s (r d))=β d;rw[this]
 have obj:∀d o,(σ.dG r).get d=some o→∃d0 o0,σ.get d0=some o0∧d=r d0∧o=o0.dG r∧s (r d0)=d0∧pE (λd=>!Nat.beq (s (r d)) d) o0=false:=by
  intro d o aa
  have key:∀(l:ag),l.clean (λd=>!Nat.beq (s (r d)) d)=true→(ag.dG r l).get d=some o→∃d0 o0,l.get d0=some o0∧d=r d0∧o=o0.dG r∧s (r d0)=d0∧pE (λd=>!Nat.beq (s (r d)) d) o0=false:=by
   intro l;induction l with
   |nil=>intro _ h;simp[ag.dG,ag.get]at h
   |cons x t bX=>
    obtain⟨k,v⟩:=x;intro ah h;simp only[ag.clean,Bool.and_eq_true,Bool.not_eq_true',Bool.not_eq_false']at ah;simp only[ag.dG,map_cons,axp]at h;have hk:s (r k)=k:=by simpa using ah.1.1
    split at h
    ·rename_i PC;cases h;exact⟨k,v,by simp[axp],PC.symm,rfl,hk,ah.1.2⟩
    ·rename_i PC;obtain⟨d0,o0,ay,aG,a1,aW,bt⟩:=bX ah.2 h;refine⟨d0,o0,?_,aG,a1,aW,bt⟩;rw[axp,if_neg]
     ·exact ay
     ·intro e;subst e;exact PC aG.symm
  exact key σ D aa
 refine⟨I,λx=>β (s x),{h with dK:=λd o aa=>?_,eN:=λd fT aa eC di b=>?_,keep:=λd aa=>?_},λt=>?_⟩
 ·obtain⟨d0,o0,ay,rfl,rfl,aW,bt⟩:=obj d o aa;have ar:=h.dK d0 o0 ay;cases o0 with
  |cells T cs=>
   simp only[br,c4.dG,aW]at ar ⊢;rcases ar with q|⟨b,arr,e1,e2,bT,fG⟩
   ·exact .inl q
   ·exact .inr ⟨b,arr,e1,e2,Ba (r:=r) Y cs _ bt bT,fG⟩
  |slice T sz xs k dO=>simpa only[br,c4.dG,aW]using ar
  |map K E bO=>simpa only[br,c4.dG,aW]using ar
  |win T sz xs=>simpa only[br,c4.dG,aW]using ar
  |mO K E bO=>simpa only[br,c4.dG,aW]using ar
  |ij es clock K E bO=>simpa only[br,c4.dG,aW]using ar
  |iter gV r9 mc seen=>
   have e:β (s (r gV))=β gV:=Y gV bt;simpa only[br,c4.dG,aW,e]using ar
  |hdr gV n=>
   have e:β (s (r gV))=β gV:=Y gV bt;simpa only[br,c4.dG,aW,e]using ar
  |cO dy=>simpa only[br,c4.dG,aW]using ar
  |vec T xs=>simpa only[br,c4.dG,aW]using ar
  |jd es clock bO seen=>simpa only[br,c4.dG,aW]using ar
  |ic T xs t=>
   have e:β (s (r t))=β t:=Y t bt;simpa only[br,c4.dG,aW,e]using ar
  |e5 T e n gI=>
   simp only[pE,Bool.or_eq_false_iff]at bt;have e1:β (s (r e))=β e:=Y e bt.1
   have ct:∀Z dU,lz (λx=>β (s x)) Z dU (r1 r gI)↔lz β Z dU gI:=λZ dU=>by
    cases gI with
    |none=>exact Iff.rfl
    |some q=>obtain⟨i,t⟩:=q;cases i<;>simp only[lz,r1,Y t bt.2]
   simpa only[br,c4.dG,aW,e1,ct]using ar
  |nO K E e mu gI fx=>
   simp only[pE,Bool.or_eq_false_iff]at bt;have e1:β (s (r e))=β e:=Y e bt.1
   have ct:∀Z dU,lz (λx=>β (s x)) Z dU (r1 r gI)↔lz β Z dU gI:=λZ dU=>by
    cases gI with
    |none=>exact Iff.rfl
    |some q=>obtain⟨i,t⟩:=q;cases i<;>simp only[lz,r1,Y t bt.2]
   simpa only[br,c4.dG,aW,e1,ct]using ar
 ·obtain⟨o,aa⟩:=Option.isSome_iff_exists.1 aa;obtain⟨hP,eC⟩:=Option.isSome_iff_exists.1 eC;obtain⟨d0,o0,ay,rfl,_,aW,_⟩:=obj d o aa;obtain⟨d1,hy,cM,rfl,_,iy,_⟩:=obj fT hP eC;simp only[aW,iy];exact h.eN d0 d1 (by rw[ay];rfl) (by rw[cM];rfl) (λe=>di (by rw[e])) b
 ·have:=aj d aa;simp only[this];exact h.keep d aa
 ·rw[ayD];exact MA (r:=r) Y _ _ (axT h1 t) (dw t)
variable {G:c7}{σ:ag}
def azA{env:an}(t d:Nat)(T:TypeId)(sz:Nat)(be:env.get t=.dh)(aa:σ.get d=none)(hi:G.ids.contains d=false)(ah:env.clean (Nat.beq d)=true)(Z:σ.clean (Nat.beq d)=true):
  dr G env σ ((t,.own d)::env) ((d,.slice T sz [] 0 false)::σ):=λcx I β a w h dw=>by
 let β':Nat→Value:=λx=>if x=d then .slice none 0 0 else β x
 have Y:∀x,Nat.beq d x=false→β' x=β x:=λx u=>by
  have:x≠d:=λe=>by subst e;simp at u
  show(if x=d then _ else β x)=_;rw[if_neg this]
 have gw:β' d=.slice none 0 0:=by show(if d=d then _ else _)=_;rw[if_pos rfl]
 refine⟨I,β',{h with dK:=λx o e=>?_,eN:=λx y ex yf di b=>?_,keep:=λx u=>?_},λaq=>?_⟩
 ·rw[axp]at e;split at e
  ·rename_i u;subst u;cases e
   simp only[br,gw];exact .inr (.inl ⟨trivial,trivial,trivial⟩)
  ·obtain⟨aN,bw⟩:=axC Z x o e;exact(h.dK x o e).beta Y aN bw
 ·rw[axp]at ex yf;by_cases u:d=x
  ·subst u;rw[gw];simp[Lk]
  ·by_cases ak:d=y
   ·subst ak;rw[gw];simp[Lk]
   ·rw[if_neg u]at ex;rw[if_neg ak]at yf;rw[Y x (by rw[←Bool.not_eq_true,Nat.beq_eq];exact u),Y y (by rw[←Bool.not_eq_true,Nat.beq_eq];exact ak)];exact h.eN x y ex yf di b
 ·have:d≠x:=λe=>by subst e;simp at hi;exact hi u
  rw[Y x (by rw[←Bool.not_eq_true,Nat.beq_eq];exact this)];exact h.keep x u
 ·rw[axI];split
  ·rename_i bU;subst bU;have:=dw t;rw[be]at this;simp only[aD,bk]at this;simp only[aD,this,gw,jX,and_self]
  ·exact xk Y _ _ (axT ah aq) (dw aq)
def W.B2:W→Prop
 |.bf _ xs=>xs.length≤maxLen
 |_=>True
def NU:List W→Prop
 |[]=>True
 |x::r=>x.B2∧NU r
def W.aB:W→Prop
 |.bf _ xs=>xs.length≤maxLen
 |.agg cs=>NU cs
 |_=>True
def B3:List W→Prop
 |[]=>True
 |x::r=>x.aB∧B3 r
def aD.B2{I:bP}{β:Nat→Value}{a:W}{v:Value}(h:aD I β a v):a.B2:=by
 cases a<;>simp only[W.B2]
 simp only[aD,bk]at h;obtain⟨_,_,_,h1,D,_⟩:=h;omega
def cw.aB{I:bP}{β:Nat→Value}:∀{a:List W} {v:fK},cw I β a v→NU a
 |[],_,_=>trivial
 |x::r,_,h=>by
  simp only[cw]at h;obtain⟨_,_,_,h1,D⟩:=h;exact⟨h1.B2,cw.aB D⟩
def aD.aB{I:bP}{β:Nat→Value}{a:W}{v:Value}(h:aD I β a v):a.aB:=by
 cases a<;>simp only[W.aB]
 ·exact h.B2
 ·simp only[aD]at h;obtain⟨_,_,h⟩:=h;exact h.aB
def cw.B3{I:bP}{β:Nat→Value}:∀{a:List W} {v:fK},cw I β a v→B3 a
 |[],_,_=>trivial
 |x::r,_,h=>by
  simp only[cw]at h;obtain⟨_,_,_,h1,D⟩:=h;exact⟨h1.aB,cw.B3 D⟩
def ag.ids(σ:ag):ei:=σ.map (·.1)
def gZ(P:Program)(f:FuncId)(iZ:ag)(args:List W)(ih:W→ag→Prop):Prop:=
 ∀(cx:gj) (w:World) (I:bP) (β:Nat→Value) (vs:fK),cG ⟨P,0,iZ.ids⟩ cx I β iZ w→cw I β args vs→
  Calls P f vs.toArray w (λe w'=>∃v,e=.returned v∧∃r aL bm β',ih r aL∧aD bm β' r v∧cG ⟨P,0,iZ.ids⟩ cx bm β' aL w')
def gZ.mono{P:Program}{f:FuncId}{iZ:ag}{args:List W}{ih Ef:W→ag→Prop}(h:gZ P f iZ args ih)(aK:∀r aL,ih r aL→Ef r aL):gZ P f iZ args Ef:=
 λcx w I β vs h1 D=>Calls.mono (h cx w I β vs h1 D) λ_ _ ⟨v,he,r,aL,bm,β',ay,aG,a1⟩=>⟨v,he,r,aL,bm,β',aK _ _ ay,aG,a1⟩
def dn(P:Program)(f:FuncId)(iZ:ag)(args:List W)(r:W):Prop:=gZ P f iZ args (λa aL=>a=r∧aL=iZ)
structure dS(P:Program)(T:TypeId)(n:Nat)(ej:Bool):Prop where
 size:∀w,(sizeOf T).run P w=.ok n w
 agg:∀w,(isAgg T).run P w=.ok ej w
def od(ej:Bool)(n:Nat)(cs:List W):W:=bif ej then .agg (cs.take n)else cs.headD .ig
def Dh{I:bP}{β:Nat→Value}:∀(k:Nat) (cs:List W) (vs:fK),cw I β cs vs→cw I β (cs.drop k) (vs.drop k)
 |0,_,_,h=>by simpa using h
 |k+1,[],vs,h=>by simp only[cw]at h;subst h;simp[cw]
 |k+1,x::r,vs,h=>by
  simp only[cw]at h;obtain⟨aq,b8,rfl,_,D⟩:=h;simpa using Dh k r b8 D
def Di{I:bP}{β:Nat→Value}:∀(k:Nat) (cs:List W) (vs:fK),cw I β cs vs→cw I β (cs.take k) (vs.take k)
 |0,_,_,_=>by simp[cw]
 |k+1,[],vs,h=>by simp only[cw]at h;subst h;simp[cw]
 |k+1,x::r,vs,h=>by
  simp only[cw]at h;obtain⟨aq,b8,rfl,h1,D⟩:=h;simp only[take_succ_cons,cw];exact⟨aq,_,rfl,h1,Di k r b8 D⟩
def lG(b o n:Nat):Addr.add ⟨b,o,none⟩ n=⟨b,o+n,none⟩:=by
 unfold Addr.add;split<;>simp_all
variable {P:Program}{T:TypeId}{b:Nat}{ej:Bool}{w:World}
def wW{n:Nat}(aR:dS P T n ej){off:Nat}{vs:fK}(h:∀j,j<n→∃v,vs[j]?=some v∧w.cell? ⟨b,off+j,none⟩=some v)(be:ej=false→0<n):
  (loadVar T ⟨b,off,none⟩).run P w=.ok (if ej then .agg (vs.take n).toArray else vs.headD undef) w:=by
 unfold loadVar;simp only[Sem.run_bind,aR.agg,Result.andThen_ok];cases ej with
 |true=>
  simp only[if_true,Sem.run_bind,aR.size,Result.andThen_ok];have:(loadCells ⟨b,off,none⟩ n).run P w=.ok (vs.take n).toArray w:=by
   have eH:(vs.take n).length=n:=by
    rw[length_take];rcases Nat.lt_or_ge vs.length n with aP|aP
    ·obtain⟨v,h1,_⟩:=h vs.length aP;simp at h1
    ·omega
   have key:=run_loadCells_list (P:=P) w ⟨b,off,none⟩ (vs.take n) (λj v ai=>by
    rw[getElem?_take]at ai;split at ai
    ·rename_i aY;obtain⟨eP,h1,D⟩:=h j aY;rw[h1]at ai;cases ai;rw[lG];exact D
    ·cases ai)
   rw[eH]at key;exact key
  rw[this];rfl
 |false=>
  obtain⟨v,h1,D⟩:=h 0 (be rfl);simp only[load];simp only[Bool.false_eq_true,if_false,Sem.run];rw[show(⟨b,off,none⟩:Addr)=⟨b,off+0,none⟩from rfl,D];cases vs with
  |nil=>simp at h1
  |cons x r=>simp at h1;subst h1;rfl
def MB{I:bP}{β:Nat→Value}:∀(xs:cN) (vs:fK),cw I β (xs.map (W.int .i64)) vs→vs=xs.map (Value.int .i64)
 |[],vs,h=>by simpa only[map_nil,cw]using h
 |x::r,vs,h=>by
  simp only[map_cons,cw]at h;obtain⟨aq,b8,rfl,h1,D⟩:=h;rw[show aq=Value.int .i64 x by simpa [aD,bk]using h1,MB r b8 D];rfl
def LK{I:bP}{β:Nat→Value}:∀(xs:cN),cw I β (xs.map (W.int .i64)) (xs.map (Value.int .i64))
 |[]=>by simp[cw]
 |x::r=>by simp only[map_cons,cw];exact⟨_,_,rfl,by simp[aD,bk],LK r⟩
variable {I:bP}{β:Nat→Value}
def MC{xs:cN}{v:Value}:aD I β (.agg (xs.map (W.int .i64))) v↔aD I β (.arr xs) v:=by
 simp only[aD,bk];constructor
 ·rintro⟨vs,rfl,h⟩;rw[←MB xs _ h]
 ·rintro rfl;exact⟨_,rfl,by simpa using LK xs⟩
inductive qP(G:c7)(env:an)(σ:ag):ResultVar→W→Prop
 |tmp (t:Nat):qP G env σ (.tmp t) (env.get t)
 |cell (a T d:Nat) (bl n:Nat) (ej:Bool) (cs:List W) (aI:env.get a=.ptr d 0) (aa:σ.get d=some (.cells bl cs)) (aR:dS G.P T n ej) (be:cs.length=n) (bA:ej=false→0<n):qP G env σ (.cell a T) (od ej n cs)
 |arr (a T d:Nat) (bl n:Nat) (xs:cN) (aI:env.get a=.ptr d 0) (aa:σ.get d=some (.vec bl xs)) (aR:dS G.P T n true) (be:xs.length=n):qP G env σ (.cell a T) (.arr xs)
def Er(tmps:jj):ResultVar→Sem Value
 |.tmp t=>pure (tmps.getD t undef)
 |.cell a t=>do loadVar t (←asAddr (tmps.getD a undef))
variable {bl:TypeId}{cs:List W}
def cG.box{cx:gj}(aA:cG G cx I β σ w){d:Nat}(aa:σ.get d=some (.cells bl cs))(Y:cV (β d)=some b):
  ∃arr,β d=.pointer (some ⟨b,0,none⟩)∧w.heap[b]?=some (.cells arr bl (0,0))∧cw I β cs arr.toList∧(∀o,I b o=none)∧Place cx b:=by
 have ar:=aA.dK d _ aa;simp only[br]at ar;rcases ar with q|⟨ek,arr,ay,aG,a1,aW,bt⟩
 ·rw[q]at Y;simp[cV]at Y
 ·have:ek=b:=by rw[ay]at Y;simpa [cV]using Y
  subst this;exact⟨arr,ay,aG,a1,aW,bt⟩
def Kr{n:Nat}(aR:dS P T n ej)(bA:ej=false→0<n){off:Nat}{arr:jj}(Y:w.heap[b]?=some (.cells arr bl (0,0)))
  (aC:cw I β cs arr.toList) (be:off+n≤cs.length):∃v,(loadVar T ⟨b,off,none⟩).run P w=.ok v w∧aD I β (od ej n (cs.drop off)) v:=by
 have aP:=tf _ _ aC
 have m5:∀j,j<n→∃v,(arr.toList.drop off)[j]?=some v∧w.cell? ⟨b,off+j,none⟩=some v:=λj aY=>by
  have sw:off+j<arr.toList.length:=by omega
  refine⟨arr.toList[off+j],by rw[getElem?_drop];exact List.getElem?_eq_getElem sw,?_⟩;simp only[World.cell?,Y];simpa using List.getElem?_eq_getElem sw
 refine⟨_,wW aR m5 bA,?_⟩;have aa:=Dh off _ _ aC;cases ej with
 |true=>
  simp only[od,cond_true,if_true,aD];exact⟨_,rfl,by simpa using Di n _ _ aa⟩
 |false=>
  simp only[od,cond_false,Bool.false_eq_true,if_false];generalize cs.drop off=ds at aa;cases ds with
  |nil=>simp[aD]
  |cons x r=>
   simp only[cw]at aa;obtain⟨aq,b8,e,aa,_⟩:=aa;rw[e];exact aa
def qP.run{G:c7}{env:an}{σ:ag}{r:ResultVar}{x:W}(h:qP G env σ r x){cx:gj}{I:bP}{β:Nat→Value}{w:World}{a:Act}(aA:cG G cx I β σ w)(bU:l2 I β env a):
  ∃v,aD I β x v∧(Er a.tmps r).run G.P w=.ok v w:=by
 cases h with
 |tmp t=>exact⟨_,bU t,rfl⟩
 |cell b T d bl n ej cs aI aa aR be bA=>
  have h1:=bU b;rw[aI]at h1;simp only[aD]at h1;obtain⟨aX,dX,gr⟩:=h1;obtain⟨arr,ay,aG,a1,_⟩:=aA.box aa dX;obtain⟨v,iG,hW⟩:=Kr aR bA (off:=0) aG a1 (by omega);refine⟨v,by simpa using hW,?_⟩;simp only[Er,gr,asAddr,Sem.run_bind,Sem.run_pure,Result.andThen_ok];exact iG
 |arr b T d bl n xs aI aa aR be=>
  have h1:=bU b;rw[aI]at h1;simp only[aD]at h1;obtain⟨aX,dX,gr⟩:=h1;have ar:=aA.dK d _ aa;simp only[br]at ar;rcases ar with q|⟨ek,arr,e1,e2,bT,_⟩
  ·rw[q]at dX;cases dX
  have qx:ek=aX:=by rw[e1]at dX;simpa [cV]using dX
  subst qx;obtain⟨v,iG,hW⟩:=Kr (I:=I) (β:=β) (cs:=xs.map (W.int .i64)) aR (by simp) (off:=0) e2 (by rw[bT];exact LK xs) (by simp;omega);refine⟨v,MC.1 ?_,?_⟩
  ·simp only[od,cond_true,drop_zero]at hW;rw[take_of_length_le (by simp;omega)]at hW;exact hW
  ·simp only[Er,gr,asAddr,Sem.run_bind,Sem.run_pure,Result.andThen_ok];exact iG
inductive BO(G:c7)(env:an)(σ:ag):List ResultVar→List W→Prop
 |nil:BO G env σ [] []
 |cons {r:ResultVar} {x:W} {rs:List ResultVar} {xs:List W} (h:qP G env σ r x) (k:BO G env σ rs xs):BO G env σ (r::rs) (x::xs)
def BO.run{G:c7}{env:an}{σ:ag}{rs:List ResultVar}{xs:List W}(h:BO G env σ rs xs){cx:gj}{I:bP}{β:Nat→Value}{w:World}{a:Act}(aA:cG G cx I β σ w)(bU:l2 I β env a):
  ∃vs:fK,cw I β xs vs∧(rs.mapM (Er a.tmps)).run G.P w=.ok vs w∧vs.length=rs.length:=by
 induction h with
 |nil=>exact⟨[],rfl,rfl,rfl⟩
 |cons h _ bX=>
  obtain⟨v,h1,D⟩:=h.run aA bU;obtain⟨vs,ga,bV,i3⟩:=bX;refine⟨v::vs,⟨v,vs,rfl,h1,ga⟩,?_,by simp[i3]⟩;simp[mapM_cons,Sem.run_bind,D,bV]
inductive sS(G:c7)(env:an)(σ:ag):List ResultVar→W→Prop
 |zero:sS G env σ [] (.dm [])
 |one {r:ResultVar} {x:W} (h:qP G env σ r x):sS G env σ [r] x
 |two {r s:ResultVar} {x y:W} (h:qP G env σ r x) (k:qP G env σ s y):sS G env σ [r,s] (.dm [x,y])
 |three {r s t:ResultVar} {x y z:W} (h:qP G env σ r x) (k:qP G env σ s y) (l:qP G env σ t z):sS G env σ [r,s,t] (.dm [x,y,z])
 |more {rs:List ResultVar} {xs:List W} (h:BO G env σ rs xs) (aP:4≤rs.length):sS G env σ rs (.dm xs)
def sS.run{G:c7}{env:an}{σ:ag}{fn:Func}{x:W}(h:sS G env σ fn.results.toList x){cx:gj}{I:bP}{β:Nat→Value}{w:World}{a:Act}(aA:cG G cx I β σ w)(bU:l2 I β env a):
  ∃v,aD I β x v∧(results fn a.tmps).run G.P w=.ok v w:=by
 generalize aP:fn.results.toList=l at h;have aC:fn.results=l.toArray:=by rw[←aP]
 have he:results fn a.tmps=(do let vs ←l.toArray.mapM (Er a.tmps);pure (if h:vs.size=1 then vs[0]else .tuple vs)):=by
  unfold results;rw[aC];rfl
 rw[he];cases h with
 |zero=>exact⟨.tuple #[],by simp[aD,cw],by simp⟩
 |one h=>
  obtain⟨v,h1,D⟩:=h.run aA bU;refine⟨v,h1,?_⟩;simp[mapM_cons,Sem.run_bind,D]
 |two h k=>
  obtain⟨v,h1,D⟩:=h.run aA bU;obtain⟨aq,ga,bV⟩:=k.run aA bU;refine⟨.tuple #[v,aq],?_,?_⟩
  ·simp only[aD];exact⟨_,rfl,v,[aq],rfl,h1,aq,[],rfl,ga,rfl⟩
  ·simp[mapM_cons,Sem.run_bind,D,bV]
 |three h k l=>
  obtain⟨v,h1,D⟩:=h.run aA bU;obtain⟨aq,ga,bV⟩:=k.run aA bU;obtain⟨t,iw,hx⟩:=l.run aA bU;refine⟨.tuple #[v,aq,t],?_,?_⟩
  ·simp only[aD];exact⟨_,rfl,v,[aq,t],rfl,h1,aq,[t],rfl,ga,t,[],rfl,iw,rfl⟩
  ·simp[mapM_cons,Sem.run_bind,D,bV,hx]
 |more h qz=>
  obtain⟨vs,ga,bV,i3⟩:=h.run aA bU;refine⟨.tuple vs.toArray,⟨vs.toArray,rfl,by simpa using ga⟩,?_⟩;have di:¬vs.length=1:=by omega
  simp[Sem.run_bind,bV,di]
def Dx:Nat→List W→an
 |_,[]=>[]
 |k,x::r=>(k,x)::Dx (k+1) r
def aa4{I:bP}{β:Nat→Value}:∀(dU:List W) (vs:fK) (k t:Nat),cw I β dU vs→aD I β ((Dx k dU).get t) (if k≤t then vs.getD (t-k) undef else undef)∨(Dx k dU).get t=.ig
 |[],_,_,_,_=>.inr rfl
 |x::r,vs,k,t,h=>by
  simp only[cw]at h;obtain⟨aq,b8,rfl,h1,D⟩:=h;simp only[Dx,axI];split
  ·rename_i hk;subst hk;left;simpa using h1
  ·rename_i hk;rcases aa4 r b8 (k+1) t D with q|q
   ·left;by_cases cq:k+1≤t
    ·rw[if_pos cq]at q;rw[if_pos (by omega),show t-k=(t-(k+1))+1 from by omega,getD_cons_succ];exact q
    ·rw[if_neg cq]at q;rw[if_neg (by omega)];exact q
   ·exact .inr q
def Ut(G:c7)(fn:Func)(ih:W→ag→Prop):Exit→an→ag→Prop
 |.normal,env,σ|.ret,env,σ=>∃dO x r aL,sS G env (σ.freeze dO) fn.results.toList x∧jk (σ.freeze dO) x r∧(∀p∈aL,(σ.freeze dO).get p.1=some p.2)∧ih r aL
 |_,_,_=>False
def tL:∀(l:ag) d o,l.get d=some o→∃p∈l,p.1=d∧p.2=o:=by
 intro l;induction l with
 |nil=>intro d o h;simp[ag.get]at h
 |cons x r bX=>
  intro d o h;obtain⟨k,v⟩:=x;rw[axp]at h;split at h
  ·rename_i hk;injection h with h;exact⟨(k,v),by simp,hk,h⟩
  ·obtain⟨p,h1,D,aj⟩:=bX d o h;exact⟨p,by simp[h1],D,aj⟩
def gZ.enter{f:FuncId}{fn:Func}{c:Code}{iZ:ag}{args:List W}{ih:W→ag→Prop}(bc:P.funcs[f]?=some fn)(Y:fn.body=some c)(m3:args.length≤fn.ntmps)
  (h:B3 args→aF ⟨P,fn.ntmps,iZ.ids⟩ c (Ut ⟨P,fn.ntmps,iZ.ids⟩ fn ih) (Dx 0 args) iZ):gZ P f iZ args ih:=by
 intro cx w I β vs aA aC;have eH:=tf _ _ aC;have gz:cG ⟨P,fn.ntmps,iZ.ids⟩ cx I β iZ w:={aA with};refine calls_of_wp bc Y ?_;refine wp_mono ((h aC.B3).use cx _ w ⟨I,β,gz,λt=>?_,?_,rfl⟩) ?_
 ·rcases aa4 args vs 0 t aC with q|q
  ·have:((vs.toArray++Array.replicate (fn.ntmps-vs.toArray.size) undef).getD t undef)=vs.getD t undef:=by
    rw[Array.getD_eq_getD_getElem?,Array.getElem?_append,getD_eq_getElem?_getD];split
    ·simp
    ·rename_i YO;have:vs[t]?=none:=List.getElem?_eq_none (by simpa using YO);rw[this,Array.getElem?_replicate];split<;>rfl
   rw[this];simpa using q
  ·rw[q];simp[aD]
 ·simp;omega
 ·rintro e gl w' ⟨hh,aL,⟨bm,β',iG,hW,qY,r4⟩,cA⟩
  have fin:(∃dO x r σ2,sS ⟨P,fn.ntmps,iZ.ids⟩ hh (aL.freeze dO) fn.results.toList x∧jk (aL.freeze dO) x r∧(∀p∈σ2,(aL.freeze dO).get p.1=some p.2)∧ih r σ2)→
    gl.defers=[]∧∃v,(results fn gl.tmps).run P w'=.ok v w'∧(∃g2,Ending.returned v=.returned g2∧∃r aL bm β',ih r aL∧aD bm β' r g2∧cG ⟨P,0,iZ.ids⟩ cx bm β' aL w'):=by
   rintro⟨dO,x,r,σ2,ay,aG,a1,aW⟩;obtain⟨Ec,hle,ng⟩:=iG.K2 dO;obtain⟨v,s1,e8⟩:=ay.run ng (hW.mono hle (h8.refl _));refine⟨r4,v,e8,v,rfl,r,σ2,Ec,β',aW,aG.rep ng _ s1,?_⟩
   have:=ng.sub (σ2:=σ2) λd o aa=>by
    obtain⟨p,cM,dY,fJ⟩:=tL σ2 d o aa;rw[←dY,←fJ];exact a1 p cM
   exact{this with}
  cases e with
  |normal=>exact fin cA
  |ret=>exact fin cA
  |exit _=>exact cA.elim
  |goto _=>exact cA.elim
  |panic _=>exact cA.elim
  |outgrown=>exact cA.elim
end
section
def Yields.pure{G:c7}{o:Oper}{ev:Operand→W}{σ:ag}{R:ei}{bZ:W}
  (h:∀(aL:ag) (cx:gj) (I:bP) (β:Nat→Value) (w:World) (bp:Operand→Value),(∀d∈R,aL.get d=σ.get d)→cG G cx I β aL w→(∀x∈o.op.operands,aD I β (ev x) (bp x))→
   ∃v,(execOp bp o).run G.P w=.ok (.value v) w∧aD I β bZ v):Yields G o ev σ [] R bZ:=by
 intro aL cx I β w bp h1 D _ aV;obtain⟨v,aC,ai⟩:=h aL cx I β w bp h1 D aV;rw[aC];exact⟨I,β,ai,D,dc.refl I,λ_ _=>rfl⟩
def az7{G:c7}{o:Oper}{ev:Operand→W}{σ:ag}{R:ei}{bZ:W}(h:Yields G o ev σ [] R bZ):hK G o ev σ [] [] (λa aL=>a=bZ∧aL=σ):=by
 intro cx I β w bp aA u;have:=h σ cx I β w bp (λ_ _=>rfl) aA (λd aa=>by simp at aa) u;generalize (execOp bp o).run G.P w=r at this;cases r with
 |halt x w'=>exact this.elim
 |ok n w'=>
  have key:∀v vo,(∃bm β',aD bm β' bZ v∧cG G cx bm β' σ vo∧dc I bm∧(∀d,d∉([]:ei)→β' d=β d))→∃Yi aL bm β',(Yi=bZ∧aL=σ)∧aD bm β' Yi v∧cG G cx bm β' aL vo∧dc I bm∧
    (∀d,d∉([]:ei)→β' d=β d)∧(∀d,d∉([]:ei)→aL.get d=σ.get d):=
   λv vo ⟨bm,β',ay,aG,a1,aW⟩=>⟨bZ,σ,bm,β',⟨rfl,rfl⟩,ay,aG,a1,aW,λ_ _=>rfl⟩
  cases n<;>simp only[mN]at this ⊢
  ·exact key _ _ this
  ·exact key _ _ this
  ·exact Calls.mono this λ_ _ ⟨v,he,ai⟩=>⟨v,he,key _ _ ai⟩
section steps
variable {G:c7}{ops:lp}{s:ll}{log:List (Nat×ei)}{i:Nat}{l:ei}{env:an}{σ:ag}{K:an→ag→Prop}{o:Oper}{bZ:W}
def jR.n(bQ:o.guard=none):jR ops o env:=by unfold jR;rw[bQ];trivial
def azS{j:Nat}{want p:Bool}{eE:Oper}{hA:Nat}(bQ:o.guard=some (j,want))(aY:ops[j]?=some eE)(aa:eE.dst=some hA)(he:env.get hA=.bool p)(aK:p=want):jR ops o env:=by
 unfold jR;rw[bQ];exact⟨eE,hA,aY,aa,by rw[he,aK]⟩
def azT{j:Nat}{want p:Bool}{eE:Oper}{hA:Nat}(bQ:o.guard=some (j,want))(aY:ops[j]?=some eE)(aa:eE.dst=some hA)(he:env.get hA=.bool p)(aK:p=!want):mP ops o env:=by
 unfold mP;rw[bQ];exact⟨eE,hA,aY,aa,.inl (by rw[he,aK])⟩
def mP.undef{j:Nat}{want:Bool}{eE:Oper}{hA:Nat}(bQ:o.guard=some (j,want))(aY:ops[j]?=some eE)(aa:eE.dst=some hA)(he:env.get hA=.undef):mP ops o env:=by
 unfold mP;rw[bQ];exact⟨eE,hA,aY,aa,.inr he⟩
def o3(s:ll)(i:Nat):Bool:=!(s.gp&&s.es.contains i)
def uY(s:ll)(i:Nat):Bool:=!s.gp||s.es.contains i
def Mh(h:o3 s i=true):s.gp=true→i∉s.es:=λaa=>by simpa [o3,aa]using h
def Th(h:uY s i=true):s.gp=true→i∈s.es:=λaa=>by simpa [uY,aa]using h
def Ik(σ:ag)(R:ei):Bool:=R.all λd=>(σ.get d).isSome
def abY{R:ei}(h:Ik σ R=true):∀d∈R,(σ.get d).isSome:=λd aa=>List.all_eq_true.1 h d aa
def C.y{R:ei}(ar:ops[i]?=some o)(aA:jR ops o env)(Z:o3 s i=true)(cz:Ik σ R=true)(hI:Yields G o env.ev σ [] R bZ)
  (k:gG G ops s ((i,R)::log) l (env.put o.dst bZ) σ K):gG G ops s log (i::l) env σ K:=
 ⟨o,ar,.inr (.inl ⟨aA,Mh Z,[],R,bZ,σ,ax6 G σ env,abY cz,λd aa=>by simp at aa,hI,k⟩)⟩
def C.skip(ar:ops[i]?=some o)(aA:mP ops o env)(Z:o3 s i=true)(k:gG G ops s ((i,[])::log) l (env.put o.dst .undef) σ K):gG G ops s log (i::l) env σ K:=
 ⟨o,ar,.inl ⟨aA,Mh Z,k⟩⟩
def az0(ar:ops[i]?=some o)(aA:mP ops o env)(Z:uY s i=true)(k:gG G ops s log l (env.put o.dst .undef) σ K):gG G ops s log (i::l) env σ K:=
 ⟨o,ar,.inr (.inr (.inr ⟨aA,Th Z,k⟩))⟩
def C.v{d:Nat}{aZ:c4}(ar:ops[i]?=some o)(aA:jR ops o env)(Z:o3 s i=true)(hi:G.ids.contains d=false)(he:env.clean [d].contains=true)(ah:σ.clean [d].contains=true)(ct:Wk aZ=true)
  (hI:Yields G o env.ev ((d,aZ)::σ) [d] [d] bZ) (k:gG G ops s ((i,[d])::log) l (env.put o.dst bZ) ((d,aZ)::σ) K):gG G ops s log (i::l) env σ K:=
 ⟨o,ar,.inr (.inl ⟨aA,Mh Z,[d],[d],bZ,(d,aZ)::σ,⟨λx u=>by rw[axp,if_neg (λe=>u (by simp[e]))],λx u=>by simp at u;subst u;simpa using hi,he,ah,λx u gV n h=>by simp at u;subst u;rw[axp,if_pos rfl]at h;cases h;cases ct⟩,
  λx u=>by simp at u;subst u;simp[axp],λx u=>u,hI,k⟩)⟩
def C.e{M news:ei}{Φ:W→ag→Prop}(ar:ops[i]?=some o)(aA:jR ops o env)(Z:uY s i=true)(hl:hK G o env.ev σ M news Φ)(aP:(!s.gp||sQ s i M log)=true)
  (ah:env.clean news.contains=true) (be:news.all (λd=>!G.ids.contains d&&(σ.get d).isNone)=true) (k:∀bZ aL,Φ bZ aL→gG G ops s log l (env.put o.dst bZ) aL K):gG G ops s log (i::l) env σ K:=
 ⟨o,ar,.inr (.inr (.inl ⟨aA,Th Z,M,news,Φ,hl,λaa=>by simpa [aa]using aP,ah,λd aa=>by
  have:=List.all_eq_true.1 be d aa;simpa using this,k⟩))⟩
def ayO{R:ei}(ar:ops[i]?=some o)(aA:jR ops o env)(Z:uY s i=true)(hI:Yields G o env.ev σ [] R bZ)(k:gG G ops s log l (env.put o.dst bZ) σ K):gG G ops s log (i::l) env σ K:=by
 have BH:∀log:List (Nat×ei),sQ s i [] log=true:=by
  intro log;induction log with
  |nil=>rfl
  |cons x r Qd=>obtain⟨k,R⟩:=x;simp[sQ,Qd]
 exact C.e ar aA Z (az7 hI) (by simp[BH]) (ax0 env) rfl (λa aL ⟨h1,D⟩=>by subst h1 D;exact k)
def C.nil(k:K env σ):gG G ops s log [] env σ K:=k
def gG.mono{kQ:an→ag→Prop}(hk:∀env σ,K env σ→kQ env σ):∀{l:ei} {log:List (Nat×ei)} {env:an} {σ:ag},gG G ops s log l env σ K→gG G ops s log l env σ kQ
 |[],_,_,_,h=>hk _ _ h
 |_::_,_,_,_,⟨o,ar,h⟩=>⟨o,ar,by
  rcases h with⟨h1,D,aj⟩|⟨h1,D,ew,R,bZ,σ2,ai,cz,kR,hI,aj⟩|⟨h1,D,M,news,Φ,hl,zF,iQ,qA,aj⟩|⟨h1,D,aj⟩
  ·exact .inl ⟨h1,D,gG.mono hk aj⟩
  ·exact .inr (.inl ⟨h1,D,ew,R,bZ,σ2,ai,cz,kR,hI,gG.mono hk aj⟩)
  ·exact .inr (.inr (.inl ⟨h1,D,M,news,Φ,hl,zF,iQ,qA,λa aL FU=>gG.mono hk (aj a aL FU)⟩))
  ·exact .inr (.inr (.inr ⟨h1,D,gG.mono hk aj⟩))⟩
end steps
section ops
variable {G:c7}{o:Oper}{ev:Operand→W}{σ:ag}
def b5.move{x:Operand}(h:o.op=.move x):Yields G o ev σ [] [] (ev x):=
 .pure λ_ _ _ _ w bp _ _ u=>⟨bp x,by simp[execOp,h],u x (by simp[h,Op.operands])⟩
def b5.assign{x:Operand}(h:o.op=.assign x):Yields G o ev σ [] [] (ev x):=
 .pure λ_ _ _ _ w bp _ _ u=>⟨bp x,by simp[execOp,h],u x (by simp[h,Op.operands])⟩
def yT{I:bP}{β:Nat→Value}{b:Bool}{v:Value}(h:aD I β (.bool b) v):v=.bool b:=by simpa [aD,bk]using h
def jT{I:bP}{β:Nat→Value}{k:IntKind}{n:Int}{v:Value}(h:aD I β (.int k n) v):v=.int k n:=by simpa [aD,bk]using h
def Uu{I:bP}{β:Nat→Value}{s:ByteArray}{v:Value}(h:aD I β (.str s) v):v=.string s:=by simpa [aD,bk]using h
def b5.pick{c a b:Operand}{p:Bool}(h:o.op=.pick c a b)(ah:ev c=.bool p):Yields G o ev σ [] [] (bif p then ev a else ev b):=
 .pure λ_ _ I β w bp _ _ u=>by
  have h1:=u c (by simp[h,Op.operands]);rw[ah]at h1
  have h1:=yT h1;refine⟨if p then bp a else bp b,by simp[execOp,h,h1,asBool],?_⟩;cases p
  ·exact u b (by simp[h,Op.operands])
  ·exact u a (by simp[h,Op.operands])
def azd{c a b:Operand}{p:Bool}(h:o.op=.pick c a b)(ah:ev c=.bool p)(aK:p=true):Yields G o ev σ [] [] (ev a):=by
 have:=b5.pick (G:=G) (σ:=σ) h ah;rw[aK]at this;exact this
def aze{c a b:Operand}{p:Bool}(h:o.op=.pick c a b)(ah:ev c=.bool p)(aK:p=false):Yields G o ev σ [] [] (ev b):=by
 have:=b5.pick (G:=G) (σ:=σ) h ah;rw[aK]at this;exact this
def JH(k:IntKind)(n:Int):Prop:=k.wrap n=n
section ints
variable {op:BinOp}{T bl:TypeId}{x y:Operand}{k:IntKind}{m n:Int}
def b5.int(h:o.op=.binOp op T x y bl)(u:ev x=.int k m)(ak:ev y=.int k n){r:Value}{bZ:W}(be:op≠.shl∧op≠.shr)
  (aC:∀w,(match op with|.add|.sub|.mul=>Op.intArith op k m n|.quo|.rem=>Op.intDiv op k m n|.and|.or|.xor|.andNot=>Op.intBits op k m n|_=>Op.intCmp op m n:Sem Value).run G.P w=.ok r w)
  (uJ:∀I β,aD I β bZ r):Yields G o ev σ [] [] bZ:=
 .pure λ_ _ I β w bp _ _ hop=>by
  have h1:=hop x (by simp[h,Op.operands]);rw[u]at h1;have h1:=jT h1
  have D:=hop y (by simp[h,Op.operands]);rw[ak]at D;have D:=jT D
  refine⟨r,?_,uJ I β⟩;have e1:(eqGuard op T x y (.int k m) (.int k n)).run G.P w=.ok () w:=by
   unfold eqGuard;cases op<;>rfl
  have e2:(binOp op T (.int k m) (.int k n)).run G.P w=.ok r w:=by
   rw[←aC w];cases op<;>first|exact absurd rfl be.1|exact absurd rfl be.2|simp[binOp]
  simp[execOp,h,h1,D,e1,e2]
def b5.lss(h:o.op=.binOp .lss T x y bl)(u:ev x=.int k m)(ak:ev y=.int k n):Yields G o ev σ [] [] (.bool (decide (m<n))):=
 b5.int h u ak (by decide) (λw=>rfl) (λ_ _=>by simp[aD,bk])
def b5.leq(h:o.op=.binOp .leq T x y bl)(u:ev x=.int k m)(ak:ev y=.int k n):Yields G o ev σ [] [] (.bool (decide (m≤n))):=
 b5.int h u ak (by decide) (λw=>rfl) (λ_ _=>by simp[aD,bk])
def b5.gtr(h:o.op=.binOp .gtr T x y bl)(u:ev x=.int k m)(ak:ev y=.int k n):Yields G o ev σ [] [] (.bool (decide (n<m))):=
 b5.int h u ak (by decide) (λw=>rfl) (λ_ _=>by simp[aD,bk])
def b5.geq(h:o.op=.binOp .geq T x y bl)(u:ev x=.int k m)(ak:ev y=.int k n):Yields G o ev σ [] [] (.bool (decide (n≤m))):=
 b5.int h u ak (by decide) (λw=>rfl) (λ_ _=>by simp[aD,bk])
def b5.eql(h:o.op=.binOp .eql T x y bl)(u:ev x=.int k m)(ak:ev y=.int k n):Yields G o ev σ [] [] (.bool (decide (m=n))):=
 b5.int h u ak (by decide) (λw=>rfl) (λ_ _=>by simp only[aD,bk,Value.bool.injEq];rw[Bool.eq_iff_iff];simp)
def b5.neq(h:o.op=.binOp .neq T x y bl)(u:ev x=.int k m)(ak:ev y=.int k n):Yields G o ev σ [] [] (.bool (!decide (m=n))):=
 b5.int h u ak (by decide) (λw=>rfl) (λ_ _=>by simp only[aD,bk,Value.bool.injEq];rw[Bool.eq_iff_iff];simp)
def ayQ(h:o.op=.binOp .add T x y bl)(u:ev x=.int k m)(ak:ev y=.int k n):Yields G o ev σ [] [] (.int k (k.wrap (m+n))):=
 b5.int h u ak (by decide) (λw=>rfl) (λ_ _=>by simp only[aD,bk])
def azs(h:o.op=.binOp .sub T x y bl)(u:ev x=.int k m)(ak:ev y=.int k n):Yields G o ev σ [] [] (.int k (k.wrap (m-n))):=
 b5.int h u ak (by decide) (λw=>rfl) (λ_ _=>by simp only[aD,bk])
def azn(h:o.op=.binOp .mul T x y bl)(u:ev x=.int k m)(ak:ev y=.int k n):Yields G o ev σ [] [] (.int k (k.wrap (m*n))):=
 b5.int h u ak (by decide) (λw=>rfl) (λ_ _=>by simp only[aD,bk])
def b5.rem(h:o.op=.binOp .rem T x y bl)(u:ev x=.int k m)(ak:ev y=.int k n)(be:n≠0):Yields G o ev σ [] [] (.int k (m.tmod n)):=
 b5.int h u ak (by decide) (λw=>by simp[Op.intDiv,be];rfl) (λ_ _=>by simp only[aD,bk])
def kf(op:BinOp)(k:IntKind)(m n:Int):Int:=
 let a:=BitVec.ofInt k.bits m
 let b:=BitVec.ofInt k.bits n
 match op with
 |.and=>k.wrap (a &&& b).toNat
 |.or=>k.wrap (a ||| b).toNat
 |.xor=>k.wrap (a ^^^ b).toNat
 |.andNot=>k.wrap (a &&& ~~~b).toNat
 |_=>0
def b5.and(h:o.op=.binOp .and T x y bl)(u:ev x=.int k m)(ak:ev y=.int k n):Yields G o ev σ [] [] (.int k (kf .and k m n)):=
 b5.int h u ak (by decide) (λw=>rfl) (λ_ _=>by simp[aD,bk,kf])
def b5.or(h:o.op=.binOp .or T x y bl)(u:ev x=.int k m)(ak:ev y=.int k n):Yields G o ev σ [] [] (.int k (kf .or k m n)):=
 b5.int h u ak (by decide) (λw=>rfl) (λ_ _=>by simp[aD,bk,kf])
def b5.xor(h:o.op=.binOp .xor T x y bl)(u:ev x=.int k m)(ak:ev y=.int k n):Yields G o ev σ [] [] (.int k (kf .xor k m n)):=
 b5.int h u ak (by decide) (λw=>rfl) (λ_ _=>by simp[aD,bk,kf])
def b5.andNot(h:o.op=.binOp .andNot T x y bl)(u:ev x=.int k m)(ak:ev y=.int k n):Yields G o ev σ [] [] (.int k (kf .andNot k m n)):=
 b5.int h u ak (by decide) (λw=>rfl) (λ_ _=>by simp[aD,bk,kf])
def b5.shift{gK:IntKind}(hop:op=.shl∨op=.shr)(h:o.op=.binOp op T x y bl)(u:ev x=.int k m)(ak:ev y=.int gK n)(be:0≤n):
  Yields G o ev σ [] [] (.int k (match op with|.shl=>k.wrap (m*2 ^ min n.toNat k.bits)|_=>m.fdiv (2 ^ min n.toNat k.bits))):=
 .pure λ_ _ I β w bp _ _ zG=>by
  have h1:=zG x (by simp[h,Op.operands]);rw[u]at h1;have h1:=jT h1
  have D:=zG y (by simp[h,Op.operands]);rw[ak]at D;have D:=jT D
  have CE:¬n<0:=by omega
  rcases hop with rfl|rfl
  ·refine⟨_,by simp[execOp,h,h1,D,eqGuard,binOp,Op.shift,CE];rfl,by simp[aD,bk]⟩
  ·refine⟨_,by simp[execOp,h,h1,D,eqGuard,binOp,Op.shift,CE];rfl,by simp[aD,bk]⟩
end ints
def b5.not{T:TypeId}{x:Operand}{b:Bool}(h:o.op=.unOp .not T x)(u:ev x=.bool b):Yields G o ev σ [] [] (.bool (!b)):=
 .pure λ_ _ I β w bp _ _ hop=>by
  have h1:=hop x (by simp[h,Op.operands]);rw[u]at h1;have h1:=yT h1
  exact⟨.bool (!b),by simp[execOp,h,h1,Op.unary],by simp[aD,bk]⟩
def b5.convert{T bl:TypeId}{x:Operand}{k gK:IntKind}{n:Int}(h:o.op=.convert T bl x)(u:ev x=.int k n)(aR:∃d,G.P.underlying T=some d)(Pe:G.P.underlying bl=some (.int gK)):Yields G o ev σ [] [] (.int gK (gK.wrap n)):=
 .pure λ_ _ I β w bp _ _ hop=>by
  have h1:=hop x (by simp[h,Op.operands]);rw[u]at h1;have h1:=jT h1
  obtain⟨d,aa⟩:=aR;have e1:∀w,(underlying T).run G.P w=.ok d w:=λw=>by simp[underlying,program,Sem.run,aa]
  have e2:∀w,(underlying bl).run G.P w=.ok (.int gK) w:=λw=>by simp[underlying,program,Sem.run,Pe]
  refine⟨.int gK (gK.wrap n),?_,by simp[aD,bk]⟩;simp only[execOp,h,h1];unfold Go.convert;simp only[Sem.run_bind,e1,e2,Result.andThen_ok];cases d<;>rfl
def Z6{P:Program}(op:BinOp)(t:TypeId)(x y:Operand)(a b:Bool)(w:World):(eqGuard op t x y (.bool a) (.bool b)).run P w=.ok () w:=by
 unfold eqGuard;cases op<;>rfl
def asW{P:Program}(T:TypeId)(a b:Bool)(w:World)(aR:P.underlying T=some .bool):(binOp .eql T (.bool a) (.bool b)).run P w=.ok (.bool (a==b)) w:=by
 show(do pure (.bool (←Op.equal T (.bool a) (.bool b))):Sem Value).run P w=_;rw[Sem.run_bind,run_equal_bool w T a b aR];rfl
def asX{P:Program}(T:TypeId)(a b:Bool)(w:World)(aR:P.underlying T=some .bool):(binOp .neq T (.bool a) (.bool b)).run P w=.ok (.bool (!(a==b))) w:=by
 show(do pure (.bool (!(←Op.equal T (.bool a) (.bool b)))):Sem Value).run P w=_;rw[Sem.run_bind,run_equal_bool w T a b aR];rfl
def azj{T bl:TypeId}{x y:Operand}{a b:Bool}(h:o.op=.binOp .eql T x y bl)(u:ev x=.bool a)(ak:ev y=.bool b)(aR:G.P.underlying T=some .bool):Yields G o ev σ [] [] (.bool (a==b)):=
 .pure λ_ _ I β w bp _ _ hop=>by
  have h1:=hop x (by simp[h,Op.operands]);rw[u]at h1;have h1:=yT h1
  have D:=hop y (by simp[h,Op.operands]);rw[ak]at D;have D:=yT D
  exact⟨.bool (a==b),by simp only[execOp,h,h1,D,Sem.run_bind,Z6,asW T a b w aR,Result.andThen_ok,Sem.run_pure],by simp[aD,bk]⟩
def azk{T bl:TypeId}{x y:Operand}{a b:Bool}(h:o.op=.binOp .neq T x y bl)(u:ev x=.bool a)(ak:ev y=.bool b)(aR:G.P.underlying T=some .bool):Yields G o ev σ [] [] (.bool (!(a==b))):=
 .pure λ_ _ I β w bp _ _ hop=>by
  have h1:=hop x (by simp[h,Op.operands]);rw[u]at h1;have h1:=yT h1
  have D:=hop y (by simp[h,Op.operands]);rw[ak]at D;have D:=yT D
  exact⟨.bool (!(a==b)),by simp only[execOp,h,h1,D,Sem.run_bind,Z6,asX T a b w aR,Result.andThen_ok,Sem.run_pure],by simp[aD,bk]⟩
mutual
def valOf:W→Value
 |.int k n=>.int k n
 |.bool b=>.bool b
 |.str s=>.string s
 |.agg cs=>.agg (wm cs).toArray
 |_=>undef
def wm:List W→fK
 |[]=>[]
 |x::r=>valOf x::wm r
end
mutual
def W.plain:W→Bool
 |.int _ _=>true
 |.bool _=>true
 |.str _=>true
 |.agg cs=>HX cs
 |_=>false
def HX:List W→Bool
 |[]=>true
 |x::r=>x.plain&&HX r
end
mutual
def u0{I:bP}{β:Nat→Value}:∀(a:W) (v:Value),a.plain=true→aD I β a v→v=valOf a
 |.int k n,v,_,h=>jT h
 |.bool b,v,_,h=>yT h
 |.str s,v,_,h=>Uu h
 |.agg cs,v,aK,h=>by
  simp only[aD]at h;obtain⟨vs,rfl,h⟩:=h;simp only[valOf,←Sv cs vs.toList (by simpa [W.plain]using aK) h]
 |.ig,_,aK,_|.undef,_,aK,_|.bf _ _,_,aK,_|.gP _,_,aK,_|.dm _,_,aK,_|.fn _ _,_,aK,_|.dh,_,aK,_|.og,_,aK,_|.own _,_,aK,_|.ptr _ _,_,aK,_|.ep _,_,aK,_|.h9 _ _,_,aK,_|.l7,_,aK,_|.fH _ _,_,aK,_=>by simp[W.plain]at aK
def Sv{I:bP}{β:Nat→Value}:∀(a:List W) (v:fK),HX a=true→cw I β a v→v=wm a
 |[],v,_,h=>h
 |x::r,v,aK,h=>by
  simp only[cw]at h;simp only[HX,Bool.and_eq_true]at aK;obtain⟨aq,b8,rfl,h1,D⟩:=h;simp only[wm,←u0 x aq aK.1 h1,←Sv r b8 aK.2 D]
end
def azt{T bl:TypeId}{x y:Operand}{a b:W}{r:Bool}(h:o.op=.binOp .eql T x y bl)(u:ev x=a)(ak:ev y=b)(QS:a.plain=true)(pb:b.plain=true)(he:∀w,(do eqGuard .eql T x y (valOf a) (valOf b);binOp .eql T (valOf a) (valOf b):Sem Value).run G.P w=.ok (.bool r) w):
  Yields G o ev σ [] [] (.bool r):=
 .pure λ_ _ I β w bp _ _ hop=>by
  have h1:=hop x (by simp[h,Op.operands]);rw[u]at h1;have h1:=u0 a _ QS h1
  have D:=hop y (by simp[h,Op.operands]);rw[ak]at D;have D:=u0 b _ pb D
  refine⟨.bool r,?_,by simp[aD,bk]⟩;have:=he w;simp only[execOp,h,h1,D];rw[Sem.run_bind,this];rfl
def azv{T bl:TypeId}{x y:Operand}{a b:W}{r:Bool}(h:o.op=.binOp .neq T x y bl)(u:ev x=a)(ak:ev y=b)(QS:a.plain=true)(pb:b.plain=true)(he:∀w,(do eqGuard .neq T x y (valOf a) (valOf b);binOp .neq T (valOf a) (valOf b):Sem Value).run G.P w=.ok (.bool r) w):
  Yields G o ev σ [] [] (.bool r):=
 .pure λ_ _ I β w bp _ _ hop=>by
  have h1:=hop x (by simp[h,Op.operands]);rw[u]at h1;have h1:=u0 a _ QS h1
  have D:=hop y (by simp[h,Op.operands]);rw[ak]at D;have D:=u0 b _ pb D
  refine⟨.bool r,?_,by simp[aD,bk]⟩;have:=he w;simp only[execOp,h,h1,D];rw[Sem.run_bind,this];rfl
structure hb(P:Program)(T:TypeId)(f off:Nat):Prop where
 run:∀(a:Addr) w,(Instr.fieldAt T (.pointer (some a)) f).run P w=.ok (.pointer (some (a.add off))) w
def aa5{I:bP}{b:Nat}:∀(k:Nat) (cs:List W) (o:Nat),lu I b cs o→lu I b (cs.drop k) (o+k)
 |0,cs,o,h=>by simpa using h
 |k+1,[],o,h=>by simp[lu]
 |k+1,x::r,o,h=>by
  simp only[lu]at h;have:=aa5 k r (o+1) h.2;simpa [show o+1+k=o+(k+1)from by omega]using this
def ay0{T:TypeId}{x:Operand}{f off d p:Nat}(h:o.op=.fieldAddr T x f)(u:ev x=.ptr d p)(bc:hb G.P T f off):Yields G o ev σ [] [] (.ptr d (p+off)):=
 .pure λ_ _ I β w bp _ _ hop=>by
  have h1:=hop x (by simp[h,Op.operands]);rw[u]at h1
  simp only[aD]at h1;obtain⟨b,h1,D⟩:=h1;refine⟨.pointer (some ⟨b,p+off,none⟩),?_,by simp only[aD];exact⟨b,h1,rfl⟩⟩;simp[execOp,h,D,bc.run,lG]
def ay1{T:TypeId}{x:Operand}{f off:Nat}{cs:List W}(h:o.op=.fieldAddr T x f)(u:ev x=.gP cs)(bc:hb G.P T f off):Yields G o ev σ [] [] (.gP (cs.drop off)):=
 .pure λ_ _ I β w bp _ _ hop=>by
  have h1:=hop x (by simp[h,Op.operands]);rw[u]at h1
  simp only[aD,bk]at h1;obtain⟨b,p,h1,D⟩:=h1;refine⟨.pointer (some ⟨b,p+off,none⟩),?_,by simp only[aD,bk];exact⟨b,p+off,rfl,aa5 off cs p D⟩⟩;simp[execOp,h,h1,bc.run,lG]
def Rq{I:bP}{b:Nat}{w:World}(bQ:∀b (o:Nat) v,I b o=some v→w.cell? ⟨b,o,none⟩=some v):∀(cs:List W) (o:Nat),lu I b cs o→
  ∃vs:fK,cD I cs vs∧∀j v,vs[j]?=some v→w.cell? ⟨b,o+j,none⟩=some v
 |[],o,_=>⟨[],rfl,λj v h=>by simp at h⟩
 |x::r,o,h=>by
  simp only[lu]at h;obtain⟨⟨aq,h1,D⟩,aj⟩:=h;obtain⟨vs,aV,b4⟩:=Rq bQ r (o+1) aj;refine⟨aq::vs,⟨aq,vs,rfl,D,aV⟩,λj v ai=>?_⟩;cases j with
  |zero=>simp at ai;subst ai;exact bQ _ _ _ h1
  |succ j=>
   have:=b4 j v (by simpa using ai)
   rwa [show o+(j+1)=o+1+j from by omega]
mutual
def bk.rep{I:bP}(β:Nat→Value):∀(a:W) (v:Value),bk I a v→aD I β a v
 |.ig,_,_=>by simp[aD]
 |.undef,_,h=>by simpa only[aD]using h
 |.int _ _,_,h=>by simpa only[aD]using h
 |.bool _,_,h=>by simpa only[aD]using h
 |.str _,_,h=>by simpa only[aD]using h
 |.bf _ _,_,h=>by simpa only[aD]using h
 |.gP _,_,h=>by simpa only[aD]using h
 |.dh,_,h=>by simpa only[aD]using h
 |.og,_,h=>by simpa only[aD]using h
 |.h9 _ _,_,h=>by simpa only[aD]using h
 |.l7,_,h=>by simpa only[aD]using h
 |.ec _,_,h=>by simpa only[aD]using h
 |.arr _,_,h=>by simpa only[aD]using h
 |.agg cs,v,h=>by
  simp only[bk,aD]at h ⊢;obtain⟨vs,h1,D⟩:=h;exact⟨vs,h1,cD.rep β cs _ D⟩
 |.dm cs,v,h=>by
  simp only[bk,aD]at h ⊢;obtain⟨vs,h1,D⟩:=h;exact⟨vs,h1,cD.rep β cs _ D⟩
 |.fn f cs,v,h=>by
  simp only[bk,aD]at h ⊢;obtain⟨vs,h1,D⟩:=h;exact⟨vs,h1,cD.rep β cs _ D⟩
 |.own _,_,h=>by simp[bk]at h
 |.ptr _ _,_,h=>by simp[bk]at h
 |.fH _ _,_,h=>by simp[bk]at h
 |.ep _,_,h=>by simp[bk]at h
def cD.rep{I:bP}(β:Nat→Value):∀(a:List W) (v:fK),cD I a v→cw I β a v
 |[],_,h=>h
 |x::r,v,h=>by
  simp only[cD,cw]at h ⊢;obtain⟨aq,b8,h1,D,aj⟩:=h;exact⟨aq,b8,h1,bk.rep β x aq D,cD.rep β r b8 aj⟩
end
def ayj{T bl:TypeId}{x:Operand}{n d p:Nat}{ej:Bool}{cs:List W}(h:o.op=.load T x)(u:ev x=.ptr d p)(aa:σ.get d=some (.cells bl cs))(aR:dS G.P T n ej)(bA:(ej||Nat.blt 0 n)=true)(be:Nat.ble (p+n) cs.length=true):
  Yields G o ev σ [] [d] (od ej n (cs.drop p)):=
 .pure λaL cx I β w bp cz aA hop=>by
  have h1:=hop x (by simp[h,Op.operands]);rw[u]at h1
  simp only[aD]at h1;obtain⟨b,h1,D⟩:=h1;obtain⟨arr,ay,aG,a1,_⟩:=aA.box (by rw[cz d (by simp)];exact aa) h1;obtain⟨v,iG,hW⟩:=Kr aR (λe=>by subst e;simpa using bA) (off:=p) aG a1 (by simpa using be);exact⟨v,by simp[execOp,h,D,Instr.loadAt,Instr.sureAddr,iG],hW⟩
def az1{T:TypeId}{x:Operand}{n:Nat}{ej:Bool}{cs:List W}(h:o.op=.load T x)(u:ev x=.gP cs)(aR:dS G.P T n ej)(bA:(ej||Nat.blt 0 n)=true)(be:Nat.ble n cs.length=true):
  Yields G o ev σ [] [] (od ej n cs):=
 .pure λaL cx I β w bp cz aA hop=>by
  have h1:=hop x (by simp[h,Op.operands]);rw[u]at h1
  simp only[aD,bk]at h1;obtain⟨b,p,h1,D⟩:=h1;obtain⟨vs,aj,aV⟩:=Rq aA.good cs p D;have aP:=oT _ _ aj;have be:n≤cs.length:=by simpa using be
  have m5:∀j,j<n→∃v,vs[j]?=some v∧w.cell? ⟨b,p+j,none⟩=some v:=λj aY=>by
   have sw:j<vs.length:=by omega
   exact⟨vs[j],List.getElem?_eq_getElem sw,aV j _ (List.getElem?_eq_getElem sw)⟩
  refine⟨_,by simp only[execOp,h,h1,Instr.loadAt,Instr.sureAddr,Sem.run_bind,Sem.run_pure,Result.andThen_ok,wW aR m5 (λe=>by subst e;simpa using bA)];rfl,?_⟩;have aa:=cD.rep β _ _ aj;cases ej with
  |true=>
   simp only[od,cond_true,if_true,aD];exact⟨_,rfl,by simpa using Di n _ _ aa⟩
  |false=>
   simp only[od,cond_false,Bool.false_eq_true,if_false];cases cs with
   |nil=>simp[aD]
   |cons x r=>
    simp only[cw]at aa;obtain⟨aq,b8,e,aa,_⟩:=aa;rw[e];exact aa
structure ji(P:Program)(T E n:Nat):Prop where
 ia:P.underlying T=some (.slice E)
 size:∀w,(sizeOf E).run P w=.ok n w
def RF{I:bP}{b sz:Nat}:∀(xs:List (List W)) (o i:Nat),(∀e∈xs,e.length=sz)→jF I b xs o→i<xs.length→lu I b (xs.getD i []) (o+i*sz)
 |[],_,_,_,_,h=>by simp at h
 |e::r,o,0,_,h,_=>by simp only[jF]at h;simpa using h.1
 |e::r,o,i+1,aP,h,hi=>by
  simp only[jF]at h;have he:=aP e (by simp);have:=RF r (o+e.length) i (λx u=>aP x (by simp[u])) h.2 (by simpa using hi);rw[he]at this;have e2:o+sz+i*sz=o+(i+1)*sz:=by rw[Nat.add_mul,Nat.one_mul];omega
  rw[e2]at this;simpa using this
def ayF{α:Type}{T E:Nat}{x:Operand}{f:Bool}{rs:List α}{enc:α→List W}{k}(h:o.op=.call ⟨.builtin .len,#[x],k⟩)(hk:k=#[T])(u:ev x=.bf f (rs.map enc))(aR:G.P.underlying T=some (.slice E)):Yields G o ev σ [] [] (.int .i64 (rs.length:Int)):=
 .pure λaL cx I β w bp cz aA hop=>by
  subst hk;have h1:=hop x (by simp[h,Op.operands,Call.operands]);rw[u]at h1
  simp only[aD,bk,length_map]at h1;obtain⟨a,c,h1,_⟩:=h1;have e1:∀w,(underlying T).run G.P w=.ok (.slice E) w:=λw=>by simp[underlying,program,Sem.run,aR]
  exact⟨.int .i64 rs.length,by simp[execOp,h,resolve,invoke,builtin,Builtin.len_,h1,e1,goInt],by simp[aD,bk]⟩
def azp{T E:Nat}{x:Operand}{k}(h:o.op=.call ⟨.builtin .len,#[x],k⟩)(hk:k=#[T])(u:ev x=.dh)(aR:G.P.underlying T=some (.slice E)):Yields G o ev σ [] [] (.int .i64 0):=
 .pure λaL cx I β w bp cz aA hop=>by
  subst hk;have h1:=hop x (by simp[h,Op.operands,Call.operands]);rw[u]at h1
  simp only[aD,bk]at h1;have e1:∀w,(underlying T).run G.P w=.ok (.slice E) w:=λw=>by simp[underlying,program,Sem.run,aR]
  exact⟨.int .i64 0,by simp[execOp,h,resolve,invoke,builtin,Builtin.len_,h1,e1,goInt],by simp[aD,bk]⟩
def azr{T:Nat}{x:Operand}{s:ByteArray}{k}(h:o.op=.call ⟨.builtin .len,#[x],k⟩)(hk:k=#[T])(u:ev x=.str s)(aR:G.P.underlying T=some .string):Yields G o ev σ [] [] (.int .i64 (s.size:Int)):=
 .pure λaL cx I β w bp cz aA hop=>by
  subst hk;have h1:=hop x (by simp[h,Op.operands,Call.operands]);rw[u]at h1;have h1:=Uu h1
  have e1:∀w,(underlying T).run G.P w=.ok .string w:=λw=>by simp[underlying,program,Sem.run,aR]
  exact⟨.int .i64 s.size,by simp[execOp,h,resolve,invoke,builtin,Builtin.len_,h1,e1,goInt],by simp[aD,bk]⟩
def Sw{G:c7}{cx:gj}{I:bP}{β:Nat→Value}{σ:ag}{w:World}(aA:cG G cx I β σ w){d:Nat}{T sz k:Nat}{dO:Bool}{xs:List (List W)}(aa:σ.get d=some (.slice T sz xs k dO)){v:Value}(ai:aD I β (.own d) v):
  ∃a c,v=.slice a xs.length c∧xs.length≤c∧c≤maxLen:=by
 simp only[aD]at ai;obtain⟨rfl,Z⟩:=ai;have:=aA.dK d _ aa;simp only[br]at this;rcases this with h1|⟨h1,rfl,_⟩|⟨b,aT,arr,h1,D,aj,_⟩
 ·rw[h1]at Z;simp[jX]at Z
 ·exact⟨none,0,h1,by simp,by simp[maxLen]⟩
 ·exact⟨_,aT,h1,D,aj⟩
def azq{α:Type}{T E:Nat}{x:Operand}{d bl sz n:Nat}{dO:Bool}{rs:List α}{enc:α→List W}{k}(h:o.op=.call ⟨.builtin .len,#[x],k⟩)(hk:k=#[T])(u:ev x=.own d)(aa:σ.get d=some (.slice bl sz (rs.map enc) n dO))(aR:G.P.underlying T=some (.slice E)):Yields G o ev σ [] [d] (.int .i64 (rs.length:Int)):=
 .pure λaL cx I β w bp cz aA hop=>by
  subst hk;have h1:=hop x (by simp[h,Op.operands,Call.operands]);rw[u]at h1
  obtain⟨a,c,h1,_⟩:=Sw aA (by rw[cz d (by simp)];exact aa) h1;have e1:∀w,(underlying T).run G.P w=.ok (.slice E) w:=λw=>by simp[underlying,program,Sem.run,aR]
  exact⟨.int .i64 rs.length,by simp[execOp,h,resolve,invoke,builtin,Builtin.len_,h1,e1,goInt],by simp[aD,bk]⟩
def Ln{I:bP}{β:Nat→Value}:∀{xs:List W} {vs:fK} {j:Nat} {a:W},cw I β xs vs→xs[j]?=some a→∃v,vs[j]?=some v∧aD I β a v
 |[],_,_,_,_,h=>by simp at h
 |x::r,vs,0,a,h,aY=>by
  simp only[cw]at h;obtain⟨aq,b8,rfl,h1,_⟩:=h;simp at aY;subst aY
  exact⟨aq,by simp,h1⟩
 |x::r,vs,j+1,a,h,aY=>by
  simp only[cw]at h;obtain⟨aq,b8,rfl,_,D⟩:=h;obtain⟨v,aj,aV⟩:=Ln D (by simpa using aY);exact⟨v,by simpa using aj,aV⟩
def b5.extract{x:Operand}{j:Nat}{vs:List W}{a:W}(h:o.op=.extract x j)(u:ev x=.dm vs)(aY:vs[j]?=some a):Yields G o ev σ [] [] a:=
 .pure λaL cx I β w bp cz aA hop=>by
  have h1:=hop x (by simp[h,Op.operands]);rw[u]at h1
  simp only[aD]at h1;obtain⟨b8,h1,D⟩:=h1;obtain⟨v,aj,aV⟩:=Ln D aY;have aj:b8[j]?=some v:=by simpa using aj
  exact⟨v,by simp[execOp,h,h1,Instr.extract,aj],aV⟩
def ayS{x:Operand}{d p:Nat}(h:o.op=.nilCheck x)(u:ev x=.ptr d p):Yields G o ev σ [] [] (.ptr d p):=
 .pure λaL cx I β w bp cz aA hop=>by
  have h1:=hop x (by simp[h,Op.operands]);rw[u]at h1
  have D:=h1;simp only[aD]at h1;obtain⟨b,_,h1⟩:=h1;exact⟨bp x,by simp[execOp,h,h1],D⟩
def ayT{x:Operand}{cs:List W}(h:o.op=.nilCheck x)(u:ev x=.gP cs):Yields G o ev σ [] [] (.gP cs):=
 .pure λaL cx I β w bp cz aA hop=>by
  have h1:=hop x (by simp[h,Op.operands]);rw[u]at h1
  have D:=h1;simp only[aD,bk]at h1;obtain⟨b,p,h1,_⟩:=h1;exact⟨bp x,by simp[execOp,h,h1],D⟩
end ops
end
section
structure hJ(w w':World)(b:Nat):Prop where
 block:∀k,k≠b→k<w.heap.size→w'.heap[k]?=w.heap[k]?
 size:w.heap.size≤w'.heap.size
 tape:w'.tape=w.tape
 os:w'.os=w.os
 output:w'.output=w.output
 drawn:w.drawn≤w'.drawn
def hZ{w:World}{b:Nat}{x:Obj}(h:w.heap[b]?=some x):b<w.heap.size:=(Array.getElem?_eq_some_iff.1 h).1
def br.keep{cx:gj}{I bm:bP}{β β':Nat→Value}{w w':World}{x:Nat}{o:c4}{b:Nat}(h:br cx I β w x o)(hk:hJ w w' b)(u:β' x=β x)(Wm:b∉e4 (β x))(hle:dc I bm)(fZ:∀aX,aX≠b→∀o,bm aX o=I aX o)(ct:h8 β β'):
  br cx bm β' w' x o:=by
 have di:cV (β x)≠some b:=λe=>Wm (lF e);cases o with
 |cO dy=>
  simp only[br,u]at h ⊢;rcases h with q|⟨Z,ay,aG⟩
  ·exact .inl q
  ·refine .inr ⟨Z,ay,aG.go hle λaX h5=>?_⟩;have Y:aX≠b:=λe=>Wm (by rw[ay,←e];exact h5);exact⟨λcq=>hk.block aX Y cq,fZ aX Y,id⟩
 |ic T xs t=>
  simp only[br,u]at h ⊢;rcases h with q|⟨aX,aT,arr,ay,aG,a1,aW,bt,b1,cE,dA,ef,eY,gb⟩
  ·exact .inl q
  ·have Y:aX≠b:=λe=>di (by rw[ay,e];rfl);have e1:β' t=β t:=by
    rcases ct t with e1|e1
    ·exact absurd e1 ef
    ·exact e1
   exact .inr ⟨aX,aT,arr,ay,aG,a1,(hk.block aX Y (hZ aW)).trans aW,bt,ov hle _ _ b1,cE,by rw[e1];exact dA,by rw[e1];exact ef,λo=>(fZ aX Y o).trans (eY o),gb⟩
 |vec T xs=>
  simp only[br,u]at h ⊢;rcases h with q|⟨aX,arr,ay,aG,a1,aW,bt⟩
  ·exact .inl q
  ·have Y:aX≠b:=λe=>di (by rw[ay,e];rfl);exact .inr ⟨aX,arr,ay,(hk.block aX Y (hZ aG)).trans aG,a1,λo=>(fZ aX Y o).trans (aW o),bt⟩
 |jd es clock bO seen=>
  simp only[br,u]at h ⊢;rcases h with q|⟨r,ha,ay,aG,a1,aW,bt,b1,cE⟩
  ·exact .inl q
  ·have Y:r≠b:=λe=>di (by rw[ay,e];rfl);exact .inr ⟨r,ha,ay,(hk.block r Y (hZ aG)).trans aG,hle _ _ _ a1,nA hle _ _ aW,bt,λo=>(fZ r Y o).trans (b1 o),cE⟩
 |e5 T e n gI=>
  simp only[br,u]at h ⊢;rcases h with q|⟨aX,aT,arr,Z,ay,aG,a1,aW,bt,b1,cE,dA,ef,eY⟩
  ·exact .inl q
  ·have Y:aX≠b:=λe=>di (by rw[ay,e];rfl);have e1:β' e=β e:=by
    rcases ct e with e1|e1
    ·rw[e1]at b1;cases b1
    ·exact e1
   exact .inr ⟨aX,aT,arr,Z,ay,aG,a1,(hk.block aX Y (hZ aW)).trans aW,bt,by rw[e1];exact b1,cE,dA.hle ct,λo=>(fZ aX Y o).trans (ef o),eY⟩
 |nO K E e mu gI fx=>
  simp only[br,u]at h ⊢;rcases h with q|⟨r,es,clock,Z,dU,ay,aG,a1,aW,bt,b1,cE,dA⟩
  ·exact .inl q
  ·have Y:r≠b:=λe=>di (by rw[ay,e];rfl);have e1:β' e=β e:=by
    rcases ct e with e1|e1
    ·rw[e1]at a1;cases a1
    ·exact e1
   exact .inr ⟨r,es,clock,Z,dU,ay,(hk.block r Y (hZ aG)).trans aG,by rw[e1];exact a1,aW.hle ct,bt.mono hle,λo=>(fZ r Y o).trans (b1 o),cE,dA⟩
 |cells T cs=>
  simp only[br,u]at h ⊢;rcases h with q|⟨aX,arr,ay,aG,a1,aW,bt⟩
  ·exact .inl q
  ·have Y:aX≠b:=λe=>di (by rw[ay,e];rfl);exact .inr ⟨aX,arr,ay,(hk.block aX Y (hZ aG)).trans aG,vU hle ct _ _ a1,λo=>(fZ aX Y o).trans (aW o),bt⟩
 |slice T sz xs k dO=>
  simp only[br,u]at h ⊢;rcases h with q|q|⟨aX,aT,arr,ay,aG,a1,aW,bt,b1,cE,dA,ef,eY,gb⟩
  ·exact .inl q
  ·exact .inr (.inl q)
  ·have Y:aX≠b:=λe=>di (by rw[ay,e];rfl);exact .inr (.inr ⟨aX,aT,arr,ay,aG,a1,(hk.block aX Y (hZ aW)).trans aW,bt,ov hle _ _ b1,cE,dA,λhz o ar=>(fZ aX Y o).trans (ef hz o ar),λo ar=>(fZ aX Y o).trans (eY o ar),gb⟩)
 |win T sz xs=>
  simp only[br,u]at h ⊢;rcases h with q|q|⟨aX,hP,aT,arr,ay,aG,a1,aW,bt,b1,cE,dA,ef⟩
  ·exact .inl q
  ·exact .inr (.inl q)
  ·have Y:aX≠b:=λe=>di (by rw[ay,e];rfl);exact .inr (.inr ⟨aX,hP,aT,arr,ay,aG,a1,(hk.block aX Y (hZ aW)).trans aW,bt,AU hle _ _ _ b1,cE,λhz o ar=>(fZ aX Y o).trans (dA hz o ar),ef⟩)
 |map K E bO=>
  simp only[br,u]at h ⊢;rcases h with q|⟨r,es,clock,ay,aG,a1,aW,bt⟩
  ·exact .inl q
  ·have Y:r≠b:=λe=>di (by rw[ay,e];rfl);exact .inr ⟨r,es,clock,ay,(hk.block r Y (hZ aG)).trans aG,nA hle _ _ a1,λo=>(fZ r Y o).trans (aW o),bt⟩
 |mO K E bO=>
  simp only[br,u]at h ⊢;rcases h with q|⟨r,es,clock,ay,aG,a1,aW⟩
  ·exact .inl q
  ·exact .inr ⟨r,es,clock,ay,hle _ _ _ aG,nA hle _ _ a1,aW⟩
 |ij es clock K E bO=>
  simp only[br,u]at h ⊢;rcases h with q|⟨r,ay,aG,a1,aW,bt⟩
  ·exact .inl q
  ·have Y:r≠b:=λe=>di (by rw[ay,e];rfl);exact .inr ⟨r,ay,(hk.block r Y (hZ aG)).trans aG,nA hle _ _ a1,λo=>(fZ r Y o).trans (aW o),bt⟩
 |iter gV r9 mc seen=>
  simp only[br,u]at h ⊢;rcases h with q|⟨r,ha,ay,aG,a1,aW,bt⟩
  ·exact .inl q
  ·have Y:r≠b:=λe=>di (by rw[ay,e];rfl);have QV:cV (β' gV)=some ha:=by
    rcases ct gV with e|e
    ·rw[e]at aG;simp[cV]at aG
    ·rw[e];exact aG
   exact .inr ⟨r,ha,ay,QV,(hk.block r Y (hZ a1)).trans a1,λo=>(fZ r Y o).trans (aW o),bt⟩
 |hdr gV n=>
  simp only[br,u]at h ⊢;obtain⟨ay,a,c,aG⟩:=h;rcases ct gV with e|e
  ·rw[e]at aG;cases aG
  ·exact⟨ay,a,c,by rw[e];exact aG⟩
def l1.at{cx:gj}{I:bP}{w:World}{x:hE}{v:Value}(h:l1 cx I w x v){b:Nat}(Y:cV v=some b):b<w.heap.size∧Place cx b:=by
 cases x with
 |sl T sz xs=>
  rcases h with⟨h,_⟩|⟨aX,aT,arr,h1,_,_,aV,_,_,_,_,hc⟩
  ·rw[h]at Y;simp[cV]at Y
  ·rw[h1]at Y;simp[cV]at Y;subst Y;exact⟨hZ aV,hc⟩
 |mp K E bO=>
  obtain⟨r,es,clock,h1,D,_,_,b4,_⟩:=h;rw[h1]at Y;simp[cV]at Y;subst Y;exact⟨hZ D,b4⟩
def jv.at{cx:gj}{I:bP}{w:World}:∀{dy:List hE} {vs:fK},jv cx I w dy vs→∀{b:Nat},b∈vs.filterMap cV→b<w.heap.size∧Place cx b
 |[],_,h,b,Y=>by rw[show _=[]from h]at Y;cases Y
 |x::r,_,h,b,Y=>by
  obtain⟨aq,b8,rfl,h1,_,aj⟩:=h;obtain⟨v,ai,e⟩:=List.mem_filterMap.1 Y;rcases mem_cons.1 ai with rfl|ai
  ·exact h1.at e
  ·exact aj.at (List.mem_filterMap.2 ⟨v,ai,e⟩)
section turn
variable {G:c7}{cx:gj}{I:bP}{β:Nat→Value}{σ:ag}{w:World}
def cG.turn(h:cG G cx I β σ w){σ2:ag}{bm:bP}{β':Nat→Value}{w':World}{b d:Nat}(hk:hJ w w' b)(aK:Place cx b)(uW:∀x,x≠d→σ2.get x=σ.get x)
  (pJ:∀x,x≠d→(σ.get x).isSome→b∉e4 (β x)) (hle:dc I bm) (fZ:∀aX,aX≠b→∀o,bm aX o=I aX o) (BI:∀(o:Nat) v,bm b o=some v→w'.cell? ⟨b,o,none⟩=some v)
  (AG:bm b none=none) (mK:∀x,x≠d→β' x=β x) (apD:d∉G.ids∨β' d=β d) (ct:h8 β β') (gw:cV (β' d)=some b∨e4 (β' d)=[]) (ar:∀o,σ2.get d=some o→br cx bm β' w' d o):cG G cx bm β' σ2 w' where
 good:=λaX o v ai=>by
  by_cases Y:aX=b
  ·subst Y;exact BI o v ai
  ·rw[fZ aX Y]at ai;have h1:=h.good aX o v ai;have cq:aX<w.heap.size:=by
    have:=World.block_lt_of_cell? w _ h1;exact this
   rw[World.cell?_of_block (w:=w) (hk.block aX Y cq)];exact h1
 iU:=λaX v ai=>by
  by_cases Y:aX=b
  ·subst Y;rw[AG]at ai;cases ai
  ·rw[fZ aX Y]at ai;obtain⟨es,clock,h1,D⟩:=h.iU aX v ai;exact⟨es,clock,by rw[hk.block aX Y (hZ h1)];exact h1,D⟩
 ku:=h.ku.trans hle
 jY:=λaX Y be o=>by
  have:aX≠b:=λe=>by
   subst e;rcases aK with q|q
   ·omega
   ·exact be q
  rw[fZ aX this];exact h.jY aX Y be o
 frame:=λaX Y be=>by
  have:aX≠b:=λe=>by
   subst e;rcases aK with q|q
   ·omega
   ·exact be q
  rw[hk.block aX this (by have:=h.size;omega)];exact h.frame aX Y be
 size:=Nat.le_trans h.size hk.size
 tape:=hk.tape.trans h.tape
 os:=hk.os.trans h.os
 output:=hk.output.trans h.output
 drawn:=Nat.le_trans h.drawn hk.drawn
 dK:=λx o u=>by
  by_cases o1:x=d
  ·subst o1;exact ar o u
  ·rw[uW x o1]at u;exact(h.dK x o u).keep hk (mK x o1) (pJ x o1 (by rw[u];rfl)) hle fZ ct
 eN:=λx y u ak di aX=>by
  by_cases o1:x=d
  ·subst o1;rw[uW y (Ne.symm di)]at ak;rw[mK y (Ne.symm di)];intro e dW;rcases gw with q|q
   ·have:=G7 q e;subst this;exact pJ y (Ne.symm di) ak dW
   ·rw[q]at e;cases e
  ·rw[uW x o1]at u;rw[mK x o1];by_cases AO:y=d
   ·subst AO;intro e dW;rcases gw with q|q
    ·have:=G7 q dW;subst this;exact pJ x o1 u e
    ·rw[q]at dW;cases dW
   ·rw[uW y AO]at ak;rw[mK y AO];exact h.eN x y u ak di aX
 keep:=λx u=>by
  by_cases o1:x=d
  ·subst o1;rcases apD with q|q
   ·exact absurd u q
   ·rw[q];exact h.keep x u
  ·rw[mK x o1];exact h.keep x u
def cG.M8(h:cG G cx I β σ w){x:Nat}{o:c4}(u:σ.get x=some o){b:Nat}(Aw:b∈e4 (β x)):b<w.heap.size∧Place cx b:=by
 have ar:=h.dK x o u;by_cases nK:∃dy,o=.cO dy
 ·obtain⟨dy,rfl⟩:=nK;simp only[br]at ar;rcases ar with q|⟨Z,ay,aG⟩
  ·rw[q]at Aw;cases Aw
  ·rw[ay]at Aw;exact aG.at Aw
 have Y:cV (β x)=some b:=by
  cases ai:β x with
  |tuple vs=>
   exfalso;cases o<;>simp only[br,ai]at ar<;>first|exact nK ⟨_,rfl⟩|(simp at ar)
  |_=>rw[ai]at Aw;simpa [e4]using Aw
 clear Aw;cases o with
 |cO dy=>exact absurd ⟨dy,rfl⟩ nK
 |ic T xs t=>
  simp only[br]at ar;rcases ar with q|⟨aX,aT,arr,ay,_,_,aW,_,_,_,_,_,_,gb⟩
  ·rw[q]at Y;simp[cV]at Y
  ·rw[ay]at Y;simp[cV]at Y;subst Y;exact⟨hZ aW,gb⟩
 |vec T xs=>
  simp only[br]at ar;rcases ar with q|⟨aX,arr,ay,aG,_,_,bt⟩
  ·rw[q]at Y;simp[cV]at Y
  ·rw[ay]at Y;simp[cV]at Y;subst Y;exact⟨hZ aG,bt⟩
 |jd es clock bO seen=>
  simp only[br]at ar;rcases ar with q|⟨r,ha,ay,aG,_,_,_,_,cE⟩
  ·rw[q]at Y;simp[cV]at Y
  ·rw[ay]at Y;simp[cV]at Y;subst Y;exact⟨hZ aG,cE⟩
 |e5 T e n gI=>
  simp only[br]at ar;rcases ar with q|⟨aX,aT,arr,Z,ay,_,_,aW,_,_,_,_,_,eY⟩
  ·rw[q]at Y;simp[cV]at Y
  ·rw[ay]at Y;simp[cV]at Y;subst Y;exact⟨hZ aW,eY⟩
 |nO K E e mu gI fx=>
  simp only[br]at ar;rcases ar with q|⟨r,es,clock,Z,dU,ay,aG,_,_,_,_,cE,_⟩
  ·rw[q]at Y;simp[cV]at Y
  ·rw[ay]at Y;simp[cV]at Y;subst Y;exact⟨hZ aG,cE⟩
 |cells T cs=>
  simp only[br]at ar;rcases ar with q|⟨aX,arr,ay,aG,_,_,bt⟩
  ·rw[q]at Y;simp[cV]at Y
  ·rw[ay]at Y;simp[cV]at Y;subst Y;exact⟨hZ aG,bt⟩
 |slice T sz xs k dO=>
  simp only[br]at ar;rcases ar with q|⟨q,_⟩|⟨aX,aT,arr,ay,_,_,aW,_,_,_,_,_,_,gb⟩
  ·rw[q]at Y;simp[cV]at Y
  ·rw[q]at Y;simp[cV]at Y
  ·rw[ay]at Y;simp[cV]at Y;subst Y;exact⟨hZ aW,gb⟩
 |win T sz xs=>
  simp only[br]at ar;rcases ar with q|⟨q,_⟩|⟨aX,hP,aT,arr,ay,_,_,aW,_,_,_,_,ef⟩
  ·rw[q]at Y;simp[cV]at Y
  ·rw[q]at Y;simp[cV]at Y
  ·rw[ay]at Y;simp[cV]at Y;subst Y;exact⟨hZ aW,ef⟩
 |map K E bO=>
  simp only[br]at ar;rcases ar with q|⟨r,es,clock,ay,aG,_,_,bt,_⟩
  ·rw[q]at Y;simp[cV]at Y
  ·rw[ay]at Y;simp[cV]at Y;subst Y;exact⟨hZ aG,bt⟩
 |mO K E bO=>
  simp only[br]at ar;rcases ar with q|⟨r,es,clock,ay,aG,_,bt,_⟩
  ·rw[q]at Y;simp[cV]at Y
  ·rw[ay]at Y;simp[cV]at Y;subst Y
   obtain⟨_,_,h1,_⟩:=h.iU _ _ aG;exact⟨hZ h1,bt⟩
 |ij es clock K E bO=>
  simp only[br]at ar;rcases ar with q|⟨r,ay,aG,_,_,bt,_⟩
  ·rw[q]at Y;simp[cV]at Y
  ·rw[ay]at Y;simp[cV]at Y;subst Y;exact⟨hZ aG,bt⟩
 |iter gV r9 mc seen=>
  simp only[br]at ar;rcases ar with q|⟨r,ha,ay,_,a1,_,bt⟩
  ·rw[q]at Y;simp[cV]at Y
  ·rw[ay]at Y;simp[cV]at Y;subst Y;exact⟨hZ a1,bt⟩
 |hdr gV n=>
  simp only[br]at ar;rw[ar.1]at Y;simp[cV]at Y
def cG.tN(h:cG G cx I β σ w){x:Nat}{o:c4}(u:σ.get x=some o){b:Nat}(Y:b∈e4 (β x)):b<w.heap.size:=(h.M8 u Y).1
def cG.jS(h:cG G cx I β σ w){b:Nat}(Y:w.heap.size≤b)(o:nZ):I b o=none:=by
 cases ai:I b o with
 |none=>rfl
 |some v=>
  cases o with
  |none=>
   obtain⟨es,clock,h1,_⟩:=h.iU b v ai;have:=hZ h1;omega
  |some o=>
   have:=World.block_lt_of_cell? w _ (h.good b o v ai);simp at this;omega
def cG.acY(h:cG G cx I β σ w){b:Nat}{o:Obj}(Y:w.heap[b]?=some o)(be:∀es c,o≠.map es c):I b none=none:=by
 cases ai:I b none with
 |none=>rfl
 |some v=>
  obtain⟨es,clock,h1,_⟩:=h.iU b v ai;rw[Y]at h1;cases h1
  exact absurd rfl (be es clock)
def cG.uZ(h:cG G cx I β σ w){b:Nat}{arr:jj}{T:TypeId}{dO:Nat×Nat}(Y:w.heap[b]?=some (.cells arr T dO)):I b none=none:=h.acY Y λ_ _=>by simp
def hJ.alloc(w:World)(o:Obj):hJ w (w.alloc o) w.heap.size:=
 ⟨λk _ cq=>heap_alloc_old w o k cq,by simp,rfl,rfl,rfl,Nat.le_refl _⟩
def hJ.setRow(w:World)(g:Nat)(cs:jj):hJ w (w.setRow g cs) g:=
 ⟨λk hk _=>setRow_other w g k cs hk,by simp,rfl,rfl,rfl,Nat.le_refl _⟩
def hJ.drew{w w':World}{b:Nat}(h:hJ w.drew w' b):hJ w w' b:=⟨h.block,h.size,h.tape,h.os,h.output,Nat.le_trans (Nat.le_succ _) h.drawn⟩
def iL(β:Nat→Value)(d:Nat)(v:Value):Nat→Value:=λx=>if x=d then v else β x
def h0(β:Nat→Value)(d:Nat)(v:Value):iL β d v d=v:=by simp[iL]
def iJ(β:Nat→Value){d x:Nat}(v:Value)(h:x≠d):iL β d v x=β x:=by simp[iL,h]
def axX{β:Nat→Value}{d:Nat}{v:Value}(h:β d=.nilFunc):h8 β (iL β d v):=λx=>by
 by_cases u:x=d
 ·subst u;exact .inl h
 ·exact .inr (iJ β v u)
def cG.real(h:cG G cx I β σ w){d:Nat}(aa:d∉G.ids)(be:β d=.nilFunc){o:Obj}{v:Value}(ai:cV v=some w.heap.size)(ar:∀aZ,σ.get d=some aZ→br cx I (iL β d v) (w.alloc o) d aZ):
  cG G cx I (iL β d v) σ (w.alloc o):=
 h.turn (hJ.alloc w o) (.inl h.size) (λ_ _=>rfl) (λx u Z e=>by
   obtain⟨aZ,Z⟩:=Option.isSome_iff_exists.1 Z;exact absurd (h.tN Z e) (by omega)) (dc.refl I) (λ_ _ _=>rfl) (λhP eP kU=>by rw[h.jS (Nat.le_refl _)]at kU;cases kU) (h.jS (Nat.le_refl _) none)
  (λx u=>iJ β v u) (.inl aa) (axX be) (.inl (by rw[h0];exact ai)) ar
def cG.lay(h:cG G cx I β σ w)(vs:jj)(E:TypeId):∃bm,dc I bm∧(∀(o:Nat) v,vs[o]?=some v→bm w.heap.size o=some v)∧cG G cx bm β σ (w.alloc (.cells vs E)):=by
  let bm:bP:=I.on λb o=>if b=w.heap.size then vs[o]? else I b o
  have hle:dc I bm:=λb o v ai=>by
    cases o with
    |none=>exact ai
    |some o=>
    show(if b=w.heap.size then vs[o]? else I b o)=some v;split
    · rename_i e;subst e;rw[h.jS (Nat.le_refl _)]at ai;cases ai
    · exact ai
  refine⟨bm,hle,λo v ai=>by show(if _ then _ else _)=_;rw[if_pos rfl];exact ai,?_⟩;have AB:∃d,σ.get d=none:=by
    have:∀(l:ag),∃n,∀m,n≤m→l.get m=none:=by
      intro l;induction l with
      |nil=>exact⟨0,λ_ _=>rfl⟩
      |cons x r bX=>
        obtain⟨n,be⟩:=bX;obtain⟨k,v⟩:=x;exact⟨max n (k+1),λm hm=>by rw[axp,if_neg (by omega)];exact be m (by omega)⟩
    obtain⟨n,be⟩:=this σ;exact⟨n,be n (Nat.le_refl n)⟩
  obtain⟨d,aa⟩:=AB
  refine{good:=λaX o v ai=>?_,iU:=λaX v ai=>?_,ku:=h.ku.trans hle,jY:=λaX Y be o=>?_,frame:=λaX Y be=>?_,size:=Nat.le_trans h.size (by simp),tape:=h.tape,os:=h.os,output:=h.output,drawn:=h.drawn,
         dK:=λx o u=>?_,eN:=h.eN,keep:=h.keep}
  · change (if aX=w.heap.size then vs[o]? else I aX o)=some v at ai
    split at ai
    · rename_i e;subst e
      rw[World.cell?_alloc_new];exact ai
    · have h1:=h.good aX o v ai
      have cq:=World.block_lt_of_cell? w _ h1;rw[World.cell?_alloc_lt w _ _ cq];exact h1
  · obtain⟨es,clock,h1,D⟩:=h.iU aX v ai
    exact⟨es,clock,by rw[heap_alloc_old w _ aX (hZ h1)];exact h1,D⟩
  · have:aX≠w.heap.size:=by have:=h.size;omega
    cases o with
    |none=>exact h.jY aX Y be none
    |some o=>
    show(if aX=w.heap.size then vs[o]? else I aX o)=_;rw[if_neg this];exact h.jY aX Y be o
  · rw[heap_alloc_old w _ aX (by have:=h.size;omega)]
    exact h.frame aX Y be
  · refine(h.dK x o u).keep (b:=w.heap.size) (hJ.alloc w _) rfl (λe=>absurd (h.tN u e) (by omega)) hle (λaX Y o=>?_) (h8.refl β)
    cases o with
    |none=>rfl
    |some o=>
    show(if aX=w.heap.size then vs[o]? else I aX o)=_;rw[if_neg Y]
end turn
def mY:W→List W
 |.agg cs=>cs
 |a=>[a]
def om.one:om→Bool
 |.row _=>false
 |_=>true
def W.one:W→Bool
 |.int _ _=>true|.bool _=>true|.str _=>true|.bf _ _=>true|.gP _=>true|.fn _ _=>true|.dh=>true|.og=>true|.own _=>true|.ptr _ _=>true|.ep _=>true|.h9 _ _=>true|.l7=>true|.fH k _=>k.one|.ec _=>true
 |_=>false
def ayy{I:bP}{β:Nat→Value}{a:W}{v:Value}(h:a.one=true)(aC:aD I β a v):v.oneCell'=true∧v.cells=#[v]:=by
 cases a<;>simp only[W.one]at h<;>first|cases h|skip
 all_goals simp only[aD,bk]at aC
 all_goals first
  |(subst aC;exact⟨rfl,rfl⟩)
  |(obtain⟨_,_,rfl,_⟩:=aC;exact⟨rfl,rfl⟩)
  |(obtain⟨_,_,_,rfl,_⟩:=aC;exact⟨rfl,rfl⟩)
  |(obtain⟨_,rfl,_⟩:=aC;exact⟨rfl,rfl⟩)
  |(rename_i k d;cases k<;>simp only[om.one]at h<;>first|cases h|skip
    all_goals simp only[om.rep]at aC
    all_goals first|(obtain⟨b,Y,rfl⟩:=aC;exact⟨rfl,rfl⟩)|(obtain⟨_,_,_,_,_,_,rfl⟩:=aC;exact⟨rfl,rfl⟩))
  |(obtain⟨_,_,rfl⟩:=aC;exact⟨rfl,rfl⟩)
  |(obtain⟨rfl,D⟩:=aC
    rename_i d;cases Y:β d<;>rw[Y]at D<;>first|(simp[jX]at D;done)|(simp[nN]at D;done)|exact⟨rfl,rfl⟩)
def W.flat:W→Bool
 |.agg cs=>cs.all W.one
 |a=>a.one
def Mj{I:bP}{β:Nat→Value}:∀(cs:List W) (vs:fK),cs.all W.one=true→cw I β cs vs→∀v∈vs,v.oneCell'=true
 |[],vs,_,h=>by simp only[cw]at h;subst h;simp
 |x::r,vs,ah,h=>by
  simp only[cw]at h;simp only[all_cons,Bool.and_eq_true]at ah;obtain⟨aq,b8,rfl,h1,D⟩:=h;intro v ai;rcases mem_cons.1 ai with rfl|ai
  ·exact(ayy ah.1 h1).1
  ·exact Mj r b8 ah.2 D v ai
def aya{I:bP}{β:Nat→Value}{a:W}{v:Value}(h:a.flat=true)(aC:aD I β a v):cw I β (mY a) v.cells.toList∧∀aq∈v.cells.toList,aq.oneCell'=true:=by
 by_cases aI:∃cs,a=.agg cs
 ·obtain⟨cs,rfl⟩:=aI;simp only[aD]at aC;obtain⟨vs,rfl,aC⟩:=aC;simp only[W.flat]at h;exact⟨aC,Mj cs _ h aC⟩
 ·have h1:a.one=true:=by cases a<;>first|exact h|exact absurd ⟨_,rfl⟩ aI
  have D:mY a=[a]:=by cases a<;>first|rfl|exact absurd ⟨_,rfl⟩ aI
  obtain⟨aj,aV⟩:=ayy h1 aC;rw[D,aV];exact⟨⟨v,[],rfl,aC,rfl⟩,by simpa using aj⟩
section ops
variable {G:c7}{o:Oper}{ev:Operand→W}{σ:ag}
def b5.alloc{T d:Nat}{zs:fK}(h:o.op=.alloc T)(hz:∀w,∃z,(zeroValue T).run G.P w=.ok z w∧z.cells=zs.toArray)(hi:G.ids.contains d=false):
  Yields G o ev ((d,.cells T (qL zs))::σ) [d] [d] (.ptr d 0):=by
 intro aL cx I β w bp cz aA hm hop;obtain⟨z,jB,jI⟩:=hz w;have gF:(execOp bp o).run G.P w=.ok (.value (.pointer (some ⟨w.heap.size,0,none⟩))) (w.alloc (.cells zs.toArray T)):=by
  simp[execOp,h,Instr.alloc,jB,newVar,newRow,jI]
 rw[gF];have mK:=hm d (by simp);refine⟨I,iL β d (.pointer (some ⟨w.heap.size,0,none⟩)),by simp only[aD];exact⟨w.heap.size,by rw[h0];rfl,rfl⟩,?_,dc.refl I,λx u=>iJ β _ (λe=>u (by simp[e]))⟩;refine aA.real (by simpa using hi) mK rfl λaZ c5=>?_;rw[cz d (by simp),axp,if_pos rfl]at c5;injection c5 with c5
 subst c5;simp only[br,h0];exact .inr ⟨w.heap.size,zs.toArray,rfl,heap_alloc_new w _,by simpa using K1 I _ zs,λo=>aA.jS (Nat.le_refl _) o,.inl aA.size⟩
def b5.box{T d:Nat}{x:Operand}{a:W}{cs:List W}(h:o.op=.box T x)(u:ev x=a)(bc:a.flat=true)(ah:mY a=cs)(aC:a.refs (Nat.beq d)=false)(hi:G.ids.contains d=false):
  Yields G o ev ((d,.cells T cs)::σ) [d] [d] (.ptr d 0):=by
 intro aL cx I β w bp cz aA hm hop;have bF:=hop x (by simp[h,Op.operands]);rw[u]at bF;have gF:(execOp bp o).run G.P w=.ok (.value (.pointer (some ⟨w.heap.size,0,none⟩))) (w.alloc (.cells (bp x).cells T)):=by
  simp[execOp,h,Instr.box,newVar,newRow]
 rw[gF];have mK:=hm d (by simp);refine⟨I,iL β d (.pointer (some ⟨w.heap.size,0,none⟩)),by simp only[aD];exact⟨w.heap.size,by rw[h0];rfl,rfl⟩,?_,dc.refl I,λx u=>iJ β _ (λe=>u (by simp[e]))⟩;refine aA.real (by simpa using hi) mK rfl λaZ c5=>?_;rw[cz d (by simp),axp,if_pos rfl]at c5;injection c5 with c5
 subst c5;simp only[br,h0];refine .inr ⟨w.heap.size,(bp x).cells,rfl,heap_alloc_new w _,?_,λo=>aA.jS (Nat.le_refl _) o,.inl aA.size⟩;have:=(aya bc bF).1;rw[ah]at this;exact vU (dc.refl I) (axX mK) _ _ this
structure lN(P:Program)(T:TypeId)(zs:List Value)(g0:List (Nat×Nat)):Prop where
 run:∀(parts:Array (Nat×Value)) (cells:jj) w,Instr.fill (λi=>g0[i]?) zs.toArray parts.toList=some cells→(Instr.build T parts).run P w=.ok (.agg cells) w
def nP{P:Program}{T:TypeId}{it:Array Field}{zs:fK}{g0:List (Nat×Nat)}(hz:∀w,(zeroValue T).run P w=.ok (.agg zs.toArray) w)(cF:P.underlying T=some (.struct it))
  (aK:∀w,(it.mapM λf=>do pure (f.offset,←sizeOf f.type):Sem (Array (Nat×Nat))).run P w=.ok g0.toArray w):lN P T zs g0 where
 run:=λparts cells w h=>by
  have dw:Instr.fill (g0.toArray[·]?) zs.toArray parts.toList=some cells:=by
   rw[←h];congr 1;funext i;simp
  unfold Instr.build;simp only[Sem.run_bind,hz,Result.andThen_ok,run_underlying cF,aK,Value.cells];simp only[dw];rfl
def iT{α:Type}(L:List α)(off:Nat)(cs:List α):List α:=L.take off++cs++L.drop (off+cs.length)
def zi(g0:List (Nat×Nat))(cells:List W):List (Nat×W)→Option (List W)
 |[]=>some cells
 |(i,a)::c2=>match g0[i]? with
  |none=>none
  |some (off,size)=>bif Nat.beq (mY a).length size&&Nat.ble (off+(mY a).length) cells.length&&a.flat then zi g0 (iT cells off (mY a)) c2 else none
def SV(cs:fK):∀(k off:Nat) (L:jj),off+k+cs.length≤L.size→((cs.zipIdx k).foldl (λ(z1:jj) (x:Value×Nat)=>z1.setIfInBounds (off+x.2) x.1) L).toList=L.toList.take (off+k)++cs++L.toList.drop (off+k+cs.length):=by
 induction cs with
 |nil=>intro k off L h;simp
 |cons c r bX=>
  intro k off L h;simp only[zipIdx_cons,foldl_cons];have:=bX (k+1) off (L.setIfInBounds (off+k) c) (by simp at h ⊢;omega);rw[this];have e:=list_seg_step L.toList (off+k) c r (by simp at h ⊢;omega);simpa [Array.toList_setIfInBounds,Nat.add_assoc]using e
def tg{I:bP}{β:Nat→Value}:∀(xs bD:List W) (b8 vs:fK),cw I β xs b8→cw I β bD vs→cw I β (xs++bD) (b8++vs)
 |[],bD,b8,vs,h,dw=>by simp only[cw]at h;subst h;simpa using dw
 |x::r,bD,b8,vs,h,dw=>by
  simp only[cw]at h;obtain⟨aq,wJ,rfl,h1,D⟩:=h;simp only[cons_append,cw];exact⟨aq,wJ++vs,rfl,h1,tg r bD wJ vs D dw⟩
def Ti{I:bP}{β:Nat→Value}(g0:List (Nat×Nat)):∀(parts:List (Nat×W)) (gR:List (Nat×Value)) (cells:List W) (L:jj) (out:List W),cw I β cells L.toList→
  (parts.length=gR.length∧∀(j:Nat) (p:Nat×W) (q:Nat×Value),parts[j]?=some p→gR[j]?=some q→p.1=q.1∧aD I β p.2 q.2)→zi g0 cells parts=some out→∃r,Instr.fill (λi=>g0[i]?) L gR=some r∧cw I β out r.toList
 |[],gR,cells,L,out,h,ai,bc=>by
  have:gR=[]:=eq_nil_of_length_eq_zero ai.1.symm;subst this;simp only[zi,Option.some.injEq]at bc;subst bc;exact⟨L,rfl,h⟩
 |(i,a)::c2,gR,cells,L,out,h,ai,bc=>by
  cases gR with
  |nil=>simp at ai
  |cons q vs=>
   obtain⟨FV,v⟩:=q;have bA:=ai.2 0 _ _ rfl rfl;simp only at bA;obtain⟨rfl,jx⟩:=bA;simp only[zi]at bc;cases aK:g0[i]? with
   |none=>rw[aK]at bc;cases bc
   |some os=>
    obtain⟨off,size⟩:=os;rw[aK]at bc;simp only at bc;cases ah:(Nat.beq (mY a).length size&&Nat.ble (off+(mY a).length) cells.length&&a.flat)with
    |false=>rw[ah]at bc;simp at bc
    |true=>
     rw[ah]at bc;simp only[cond_true]at bc;simp only[Bool.and_eq_true,Nat.beq_eq,Nat.ble_eq]at ah;obtain⟨⟨aN,bw⟩,cg⟩:=ah;obtain⟨d1,d2⟩:=aya cg jx;have dl:=tf _ _ d1;have apY:=tf _ _ h;simp only[Array.length_toList]at dl apY;simp only[Instr.fill,aK];rw[if_neg (show ¬((decide (v.cells.size≠size)||decide (off+v.cells.size>L.size))=true)from by simp;omega)];refine Ti g0 c2 vs _ _ out ?_ ⟨by simpa using ai.1,λj p q aY cA=>ai.2 (j+1) p q (by simpa using aY) (by simpa using cA)⟩ bc;have e:=SV v.cells.toList 0 off L (by simp;omega)
     have e2:(v.cells.zipIdx.foldl (λcs (x:Value×Nat)=>cs.setIfInBounds (off+x.2) x.1) L)=((v.cells.toList.zipIdx 0).foldl (λ(z1:jj) (x:Value×Nat)=>z1.setIfInBounds (off+x.2) x.1) L):=by
      rw[←Array.foldl_toList,Array.toList_zipIdx]
     rw[e2,e];simp only[Nat.add_zero,iT];refine tg _ _ _ _ (tg _ _ _ _ (Di _ _ _ h) d1) ?_;have:=Dh (off+(mY a).length) _ _ h;have iR:v.cells.toList.length=(mY a).length:=by simpa using dl
     rw[iR];exact this
def b5.build{T:TypeId}{parts:Array (Nat×Operand)}{zs:fK}{g0:List (Nat×Nat)}{cs:List W}(h:o.op=.build T parts)(aR:lN G.P T zs g0)
  (bc:zi g0 (qL zs) (parts.toList.map λp=>(p.1,ev p.2))=some cs):Yields G o ev σ [] [] (.agg cs):=
 .pure λaL cx I β w bp cz aA hop=>by
  have h1:∀p∈parts.toList,aD I β (ev p.2) (bp p.2):=λp aK=>hop p.2 (by simp only[h,Op.operands];simpa using ⟨p.1,by simpa using aK⟩)
  obtain⟨r,D,aj⟩:=Ti g0 (parts.toList.map λp=>(p.1,ev p.2)) (parts.toList.map λp=>(p.1,bp p.2)) (qL zs) zs.toArray cs (by simpa using K1 I β zs)
   ⟨by simp,λj p q aY cA=>by
    simp only[List.getElem?_map]at aY cA;cases u:parts.toList[j]? with
    |none=>rw[u]at aY;cases aY
    |some y=>
     rw[u]at aY cA;simp only[Option.map_some,Option.some.injEq]at aY cA;subst aY cA;exact⟨rfl,h1 y (List.mem_of_getElem? u)⟩⟩ bc
  refine⟨.agg r,?_,by simp only[aD];exact⟨r,rfl,aj⟩⟩;have:(Instr.build T (parts.map λ(i,x)=>(i,bp x))).run G.P w=.ok (.agg r) w:=aR.run _ r w (by simpa using D);simp[execOp,h,this]
structure kz(P:Program)(T E sz:Nat)(zs:List Value):Prop where
 ia:P.underlying T=some (.slice E)
 size:∀w,(sizeOf E).run P w=.ok sz w
 zero:∀w,∃z,(zeroValue E).run P w=.ok z w∧z.cells=zs.toArray
 atK:zs.length=sz
def yK{sz:Nat}:∀(xs:List (List W)),(∀e∈xs,e.length=sz)→xs.flatten.length=xs.length*sz
 |[],_=>by simp
 |e::r,h=>by
  simp only[flatten_cons,length_append,length_cons,h e (by simp),yK r (λx u=>h x (by simp[u]))];rw[Nat.add_mul];omega
def we(sz:Nat):Nat→List (Nat×W)→Option (List (List W))
 |_,[]=>some []
 |k,(i,a)::r=>bif Nat.beq i k&&Nat.beq (mY a).length sz&&a.flat then(we sz (k+1) r).map (mY a::·)else none
def Kw{I:bP}{β:Nat→Value}(sz:Nat):∀(parts:List (Nat×W)) (gR:List (Nat×Value)) (k:Nat) (L:jj) (out:List (List W)),
  (parts.length=gR.length∧∀(j:Nat) (p:Nat×W) (q:Nat×Value),parts[j]?=some p→gR[j]?=some q→p.1=q.1∧aD I β p.2 q.2)→we sz k parts=some out→(k+parts.length)*sz≤L.size→
  ∃r b8,Instr.fill (λi=>some (i*sz,sz)) L gR=some r∧r.size=L.size∧r.toList=L.toList.take (k*sz)++b8++L.toList.drop ((k+parts.length)*sz)∧cw I β out.flatten b8∧(∀e∈out,e.length=sz)∧out.length=parts.length
 |[],gR,k,L,out,ai,bc,_=>by
  have:gR=[]:=eq_nil_of_length_eq_zero ai.1.symm;subst this;simp only[we,Option.some.injEq]at bc;subst bc;exact⟨L,[],rfl,rfl,by simp,by simp[cw],by simp,rfl⟩
 |(i,a)::c2,gR,k,L,out,ai,bc,kT=>by
  cases gR with
  |nil=>simp at ai
  |cons q vs=>
   obtain⟨FV,v⟩:=q;have bA:=ai.2 0 _ _ rfl rfl;simp only at bA;obtain⟨rfl,jx⟩:=bA;simp only[we]at bc;cases ah:(Nat.beq i k&&Nat.beq (mY a).length sz&&a.flat)with
   |false=>rw[ah]at bc;simp at bc
   |true=>
    rw[ah]at bc;simp only[cond_true,Option.map_eq_some_iff]at bc;obtain⟨aql,bc,rfl⟩:=bc;simp only[Bool.and_eq_true,Nat.beq_eq]at ah;obtain⟨⟨rfl,aN⟩,cg⟩:=ah;obtain⟨d1,d2⟩:=aya cg jx;have dl:=tf _ _ d1;simp only[Array.length_toList]at dl;have uM:i*sz+sz≤L.size:=by
     have:(i+1)*sz≤(i+((i,a)::c2).length)*sz:=Nat.mul_le_mul_right _ (by simp);rw[Nat.add_mul,Nat.one_mul]at this;omega
    have e:=SV v.cells.toList 0 (i*sz) L (by simp;omega)
    have e2:(v.cells.zipIdx.foldl (λcs (x:Value×Nat)=>cs.setIfInBounds (i*sz+x.2) x.1) L)=((v.cells.toList.zipIdx 0).foldl (λ(z1:jj) (x:Value×Nat)=>z1.setIfInBounds (i*sz+x.2) x.1) L):=by
     rw[←Array.foldl_toList,Array.toList_zipIdx]
    simp only[Instr.fill];rw[if_neg (show ¬((decide (v.cells.size≠sz)||decide (i*sz+v.cells.size>L.size))=true)from by simp;omega)];rw[e2];generalize avl:((v.cells.toList.zipIdx 0).foldl (λ(z1:jj) (x:Value×Nat)=>z1.setIfInBounds (i*sz+x.2) x.1) L)=Ed at e;have Za:Ed.size=L.size:=by
     rw[←Array.length_toList,e];simp;omega
    obtain⟨r,b8,iG,hW,qY,r4,y3,xG⟩:=Kw sz c2 vs (i+1) Ed aql ⟨by simpa using ai.1,λj p q aY cA=>ai.2 (j+1) p q (by simpa using aY) (by simpa using cA)⟩ bc (by rw[Za];simp at kT;rw[show i+1+c2.length=i+(c2.length+1)from by omega];exact kT);refine⟨r,v.cells.toList++b8,iG,hW.trans Za,?_,?_,?_,by simp[xG]⟩
    ·rw[qY,e];have FD:(i+1)*sz=i*sz+sz:=by rw[Nat.add_mul,Nat.one_mul]
     have iw:(L.toList.take (i*sz+0)).length=i*sz:=by simp;omega
     have hx:(L.toList.take (i*sz+0)++v.cells.toList).length=(i+1)*sz:=by rw[length_append,iw,FD];simp;omega
     rw[take_append_of_le_length (by rw[hx];exact Nat.le_refl _),←hx,take_length];have aa:List.drop ((i+1+c2.length)*sz) (L.toList.take (i*sz+0)++v.cells.toList++L.toList.drop (i*sz+0+v.cells.toList.length))=L.toList.drop ((i+((i,a)::c2).length)*sz):=by
      rw[drop_append,hx,drop_drop];have:(i+1)*sz≤(i+1+c2.length)*sz:=Nat.mul_le_mul_right _ (by omega);rw[drop_of_length_le (by rw[hx];exact this),nil_append];congr 1;simp only[Array.length_toList,length_cons];rw[show i+(c2.length+1)=i+1+c2.length from by omega];omega
     rw[aa];simp[List.append_assoc]
    ·simp only[flatten_cons];exact tg _ _ _ _ d1 r4
    ·intro e he;rcases mem_cons.1 he with rfl|he
     ·exact aN
     ·exact y3 e he
def b5.buildSlice{T E sz len:Nat}{parts:Array (Nat×Operand)}{zs:fK}{xs:List (List W)}(h:o.op=.buildSlice T len parts)(aR:kz G.P T E sz zs)(aP:parts.size=len)(Z:len*sz≤65536∧len≤65536)
  (bc:we sz 0 (parts.toList.map λp=>(p.1,ev p.2))=some xs) (ah:mE xs.flatten=true):Yields G o ev σ [] [] (.bf true xs):=by
 intro aL cx I β w bp cz aA hm hop;have h1:∀p∈parts.toList,aD I β (ev p.2) (bp p.2):=λp aK=>hop p.2 (by simp only[h,Op.operands];simpa using ⟨p.1,by simpa using aK⟩);obtain⟨z,jB,jI⟩:=aR.zero w
 let L:jj:=(Array.range (len*sz)).map ((if len*sz=0 then #[]else z.cells)[·%(if len*sz=0 then #[]else z.cells:jj).size]!)
 have yq:L.size=len*sz:=by simp[L]
 obtain⟨r,b8,iG,hW,qY,r4,y3,xG⟩:=Kw (I:=I) (β:=β) sz (parts.toList.map λp=>(p.1,ev p.2)) (parts.toList.map λp=>(p.1,bp p.2)) 0 L xs
  ⟨by simp,λj p q aY cA=>by
   simp only[List.getElem?_map]at aY cA;cases u:parts.toList[j]? with
   |none=>rw[u]at aY;cases aY
   |some y=>
    rw[u]at aY cA;simp only[Option.map_some,Option.some.injEq]at aY cA;subst aY cA;exact⟨rfl,h1 y (List.mem_of_getElem? u)⟩⟩ bc (by simp[yq,aP])
 have CG:r.toList=b8:=by
  rw[qY];have e0:L.toList.drop ((0+(parts.toList.map λp=>(p.1,ev p.2)).length)*sz)=[]:=drop_of_length_le (by simp[yq,aP]);rw[e0];simp
 have mJ:xs.length=len:=by rw[xG];simp[aP]
 have gF:(execOp bp o).run G.P w=.ok (.value (.slice (some ⟨w.heap.size,0,none⟩) len len)) (w.alloc (.cells r E)):=by
  have FA:¬(len*sz>2 ^ 24):=by have:(2:Nat) ^ 24=16777216:=by decide
                               omega
  have pS:Instr.fill (λi=>some (i*sz,sz)) L (parts.map λ(i,x)=>(i,bp x)).toList=some r:=by simpa using iG
  simp only[execOp,h,Instr.buildSlice,Sem.run_bind,run_underlying aR.ia,aR.size,Result.andThen_ok,FA,if_false];by_cases bA:len*sz=0
  ·have uF:L=(Array.range (len*sz)).map ((#[]:jj)[·%(#[]:jj).size]!):=by simp only[L,bA,if_true]
   rw[uF]at pS;simp only[bA,if_true,Sem.run_bind,Sem.run_pure,Result.andThen_ok]at pS ⊢;simp only[pS];simp[newRow]
  ·have uF:L=(Array.range (len*sz)).map (z.cells[·%z.cells.size]!):=by simp only[L,bA,if_false]
   rw[uF]at pS;simp only[bA,if_false,Sem.run_bind,jB,Sem.run_pure,Result.andThen_ok];simp only[pS];simp[newRow]
 rw[gF];obtain⟨bm,hle,lU,gz⟩:=aA.lay r E;refine⟨bm,β,?_,gz,hle,λ_ _=>rfl⟩;simp only[aD,bk];refine⟨_,len,by rw[mJ],by omega,?_,λ_=>mJ.symm,.inr ⟨w.heap.size,0,rfl,?_⟩⟩
 ·simp only[maxLen];omega
 ·have:=cw.closed _ _ ah r4;rw[←CG]at this;exact AY xs 0 _ (ov hle _ _ this) λj v ai=>by rw[Nat.zero_add];exact lU j v (by simpa using ai)
end ops
end
section
def ag.minus(ids:ei):ag→ag
 |[]=>[]
 |(d,o)::r=>bif ids.contains d then ag.minus ids r else(d,o)::ag.minus ids r
def axz(ids:ei):∀(σ:ag) (d:Nat),(ag.minus ids σ).get d=if d∈ids then none else σ.get d
 |[],d=>by simp[ag.minus,ag.get]
 |(k,o)::r,d=>by
  simp only[ag.minus];cases hk:ids.contains k with
  |true=>
   simp only[cond_true,axz ids r d,axp];split
   ·rfl
   ·rename_i aa;rw[if_neg];intro e;subst e;simp at hk;exact aa hk
  |false=>
   simp only[cond_false,axp,axz ids r d];split
   ·rename_i e;subst e;rw[if_neg (by simpa using hk)]
   ·rfl
def axQ:∀(a b:ag) (d:Nat),ag.get (a++b) d=match a.get d with|some o=>some o|none=>b.get d
 |[],b,d=>by simp[ag.get]
 |(k,o)::r,b,d=>by
  simp only[cons_append,axp];split
  ·rfl
  ·exact axQ r b d
def ayA:∀{σ:ag} {d:Nat},d∈σ.ids→(σ.get d).isSome
 |[],d,h=>by simp[ag.ids]at h
 |(k,o)::r,d,h=>by
  rw[axp];split
  ·rfl
  ·rename_i hk;simp only[ag.ids,map_cons,mem_cons]at h;rcases h with h|h
   ·exact absurd h.symm hk
   ·exact ayA (σ:=r) h
def xm(β:Nat→Value)(σ:ag):ei:=σ.flatMap λp=>e4 (β p.1)
def Re{β:Nat→Value}{σ:ag}{b:Nat}:b∈xm β σ↔∃p∈σ,b∈e4 (β p.1):=by simp[xm,List.mem_flatMap]
section after
variable {G:c7}{cx:gj}{I:bP}{β:Nat→Value}{σ:ag}{w:World}
def cG.placeOf(h:cG G cx I β σ w){x:Nat}{o:c4}(u:σ.get x=some o){b:Nat}(Y:b∈e4 (β x)):Place cx b:=(h.M8 u Y).2
def o2(I:bP)(β:Nat→Value)(ey:ag)(w:World):gj:={B:=w.heap.size,w0:=w,I0:=I,z6:=xm β ey,x3:=β}
def br.place{cx q4:gj}{I:bP}{β:Nat→Value}{w:World}{d:Nat}{o:c4}(Y5:∀b∈e4 (β d),Place cx b→Place q4 b)(h:br cx I β w d o):br q4 I β w d o:=by
 have aK:∀b,cV (β d)=some b→Place cx b→Place q4 b:=λb Y=>Y5 b (lF Y);cases o with
 |cO dy=>
  simp only[br]at h ⊢;rcases h with q|⟨Z,ay,aG⟩
  ·exact .inl q
  ·exact .inr ⟨Z,ay,aG.go (dc.refl I) λaX h5=>⟨λ_=>rfl,λ_=>rfl,Y5 aX (by rw[ay];exact h5)⟩⟩
 |ic T xs t=>
  simp only[br]at h ⊢;rcases h with q|⟨aX,aT,arr,ay,aG,a1,aW,bt,b1,cE,dA,ef,eY,gb⟩
  ·exact .inl q
  ·exact .inr ⟨aX,aT,arr,ay,aG,a1,aW,bt,b1,cE,dA,ef,eY,aK aX (by rw[ay];rfl) gb⟩
 |vec T xs=>
  simp only[br]at h ⊢;rcases h with q|⟨aX,arr,ay,aG,a1,aW,bt⟩
  ·exact .inl q
  ·exact .inr ⟨aX,arr,ay,aG,a1,aW,aK aX (by rw[ay];rfl) bt⟩
 |jd es clock bO seen=>
  simp only[br]at h ⊢;rcases h with q|⟨r,ha,ay,aG,a1,aW,bt,b1,cE⟩
  ·exact .inl q
  ·exact .inr ⟨r,ha,ay,aG,a1,aW,bt,b1,aK r (by rw[ay];rfl) cE⟩
 |e5 T e n gI=>
  simp only[br]at h ⊢;rcases h with q|⟨aX,aT,arr,Z,ay,aG,a1,aW,bt,b1,cE,dA,ef,eY⟩
  ·exact .inl q
  ·exact .inr ⟨aX,aT,arr,Z,ay,aG,a1,aW,bt,b1,cE,dA,ef,aK aX (by rw[ay];rfl) eY⟩
 |nO K E e mu gI fx=>
  simp only[br]at h ⊢;rcases h with q|⟨r,es,clock,Z,dU,ay,aG,a1,aW,bt,b1,cE,dA⟩
  ·exact .inl q
  ·exact .inr ⟨r,es,clock,Z,dU,ay,aG,a1,aW,bt,b1,aK r (by rw[ay];rfl) cE,dA⟩
 |cells T cs=>
  simp only[br]at h ⊢;rcases h with q|⟨aX,arr,ay,aG,a1,aW,bt⟩
  ·exact .inl q
  ·exact .inr ⟨aX,arr,ay,aG,a1,aW,aK aX (by rw[ay];rfl) bt⟩
 |slice T sz xs k dO=>
  simp only[br]at h ⊢;rcases h with q|q|⟨aX,aT,arr,ay,aG,a1,aW,bt,b1,cE,dA,ef,eY,gb⟩
  ·exact .inl q
  ·exact .inr (.inl q)
  ·exact .inr (.inr ⟨aX,aT,arr,ay,aG,a1,aW,bt,b1,cE,dA,ef,eY,aK aX (by rw[ay];rfl) gb⟩)
 |win T sz xs=>
  simp only[br]at h ⊢;rcases h with q|q|⟨aX,hP,aT,arr,ay,aG,a1,aW,bt,b1,cE,dA,ef⟩
  ·exact .inl q
  ·exact .inr (.inl q)
  ·exact .inr (.inr ⟨aX,hP,aT,arr,ay,aG,a1,aW,bt,b1,cE,dA,aK aX (by rw[ay];rfl) ef⟩)
 |map K E bO=>
  simp only[br]at h ⊢;rcases h with q|⟨r,es,clock,ay,aG,a1,aW,bt,b1⟩
  ·exact .inl q
  ·exact .inr ⟨r,es,clock,ay,aG,a1,aW,aK r (by rw[ay];rfl) bt,b1⟩
 |mO K E bO=>
  simp only[br]at h ⊢;rcases h with q|⟨r,es,clock,ay,aG,a1,bt,b1⟩
  ·exact .inl q
  ·exact .inr ⟨r,es,clock,ay,aG,a1,aK r (by rw[ay];rfl) bt,b1⟩
 |ij es clock K E bO=>
  simp only[br]at h ⊢;rcases h with q|⟨r,ay,aG,a1,aW,bt,b1⟩
  ·exact .inl q
  ·exact .inr ⟨r,ay,aG,a1,aW,aK r (by rw[ay];rfl) bt,b1⟩
 |iter gV r9 mc seen=>
  simp only[br]at h ⊢;rcases h with q|⟨r,ha,ay,aG,a1,aW,bt⟩
  ·exact .inl q
  ·exact .inr ⟨r,ha,ay,aG,a1,aW,aK r (by rw[ay];rfl) bt⟩
 |hdr gV n=>exact h
def cG.BP(h:cG G cx I β σ w){P:Program}{ey:ag}(Z:∀p∈ey,σ.get p.1=some p.2):cG ⟨P,0,ey.ids⟩ (o2 I β ey w) I β ey w:=by
  have mI:∀d o,ey.get d=some o→σ.get d=some o:=λd o aa=>by
    obtain⟨p,cM,dY,fJ⟩:=tL ey d o aa;rw[←dY,←fJ];exact Z p cM
  have h1:=h.sub mI
  exact{good:=h1.good,iU:=h1.iU,ku:=dc.refl I,jY:=λ_ _ _ _=>rfl,frame:=λ_ _ _=>rfl,size:=Nat.le_refl _,tape:=rfl,os:=rfl,output:=rfl,drawn:=Nat.le_refl _,
        dK:=λd o aa=>(h1.dK d o aa).place λb Y _=>.inr (by
            obtain⟨p,cM,dY,_⟩:=tL ey d o aa;exact Re.2 ⟨p,cM,by rw[dY];exact Y⟩),
        eN:=h1.eN,keep:=λ_ _=>rfl}
def cG.after(h:cG G cx I β σ w){P:Program}{ey:ag}(Z:∀p∈ey,σ.get p.1=some p.2){bm:bP}{β':Nat→Value}{σ2:ag}{w':World}
    (dw:cG ⟨P,0,ey.ids⟩ (o2 I β ey w) bm β' σ2 w') (news:ei) (be:∀d∈news,d∉G.ids∧σ.get d=none) (iQ:(σ.minus ey.ids).clean news.contains=true)
    (j3:σ2.clean (λd=>!(ey.ids++news).contains d)=true) :
    cG G cx bm (λd=>if d∈news then β' d else β d) (σ2++σ.minus ey.ids) w'∧dc I bm∧(∀(r:W) v,r.refs (λd=>!(ey.ids++news).contains d)=false→aD bm β' r v→aD bm (λd=>if d∈news then β' d else β d) r v):=by
  have mI:∀d o,ey.get d=some o→σ.get d=some o:=λd o aa=>by
    obtain⟨p,cM,dY,fJ⟩:=tL ey d o aa;rw[←dY,←fJ];exact Z p cM
  have hle:dc I bm:=dw.ku
  have hm:∀d,(λd=>!(ey.ids++news).contains d) d=false→(λd=>if d∈news then β' d else β d) d=β' d:=λd aa=>by
    have aa:d∈ey.ids∨d∈news:=by
      have:(ey.ids++news).contains d=true:=by rw[←Bool.not_eq_false'];exact aa
      exact List.mem_append.1 (List.contains_iff_mem.1 this)
    show(if d∈news then β' d else β d)=β' d;split
    · rfl
    · rename_i be
      rcases aa with aa|aa
      · exact(dw.keep d aa).symm
      · exact absurd aa be
  have Cv:∀b,b∈xm β ey→Place cx b:=λb Y=>by
    obtain⟨p,cM,dY⟩:=Re.1 Y;exact h.placeOf (Z p cM) dY
  have k7:∀b,Place (o2 I β ey w) b→Place cx b:=λb Y=>by
    rcases Y with Y|Y
    · exact .inl (Nat.le_trans h.size Y)
    · exact Cv b Y
  have FF:∀b,b<cx.B→b∉cx.z6→b<(o2 I β ey w).B∧b∉(o2 I β ey w).z6:=λb h1 D=>
    ⟨Nat.lt_of_lt_of_le h1 h.size,λY=>by
      rcases Cv b Y with q|q
      · omega
      · exact D q⟩
  have c2:∀x o,(σ.minus ey.ids).get x=some o→x∉ey.ids∧σ.get x=some o:=λx o u=>by
    rw[axz]at u;split at u
    · cases u
    · exact⟨by assumption,u⟩
  have Uv:∀x o,(σ.minus ey.ids).get x=some o→∀b∈e4 (β x),b<(o2 I β ey w).B∧b∉(o2 I β ey w).z6:=λx o u b Y=>by
    obtain⟨h1,D⟩:=c2 x o u;refine⟨h.tN D Y,λw6=>?_⟩;obtain⟨p,cM,dY⟩:=Re.1 w6;have ao4:p.1≠x:=λe=>h1 (by rw[←e];exact List.mem_map.2 ⟨p,cM,rfl⟩);exact h.eN p.1 x (by rw[Z p cM];rfl) (by rw[D];rfl) ao4 b dY Y
  have LL:∀x o,(σ.minus ey.ids).get x=some o→(if x∈news then β' x else β x)=β x:=λx o u=>by
    have:x∉news:=λP8=>by
      have:=(be x P8).2;rw[(c2 x o u).2]at this;cases this
    rw[if_neg this]
  refine⟨{good:=dw.good,iU:=dw.iU,ku:=h.ku.trans hle,jY:=λb h1 D o=>?_,frame:=λb h1 D=>?_,size:=Nat.le_trans h.size dw.size,tape:=dw.tape.trans h.tape,os:=dw.os.trans h.os,output:=dw.output.trans h.output,drawn:=Nat.le_trans h.drawn dw.drawn,
          dK:=λx o u=>?_,eN:=λx y u ak di b=>?_,keep:=λx u=>?_},hle,λr v aC ai=>xk hm r v aC ai⟩
  · obtain⟨aj,aV⟩:=FF b h1 D
    exact(dw.jY b aj aV o).trans (h.jY b h1 D o)
  · obtain⟨aj,aV⟩:=FF b h1 D
    exact(dw.frame b aj aV).trans (h.frame b h1 D)
  · rw[axQ]at u
    cases D:σ2.get x with
    |some hP=>
      rw[D]at u;cases u;obtain⟨aN,bw⟩:=axC j3 x o D;exact((dw.dK x o D).place (λb _=>k7 b)).beta hm aN bw
    |none=>
      rw[D]at u;simp only at u;obtain⟨iG,hW⟩:=c2 x o u;obtain⟨aN,bw⟩:=axC iQ x o u;have ar:=h.dK x o hW
      have vE:∀d,news.contains d=false→(λd=>if d∈news then β' d else β d) d=β d:=λd aa=>by
        have:d∉news:=by simpa using aa
        show(if d∈news then β' d else β d)=β d;rw[if_neg this]
      refine br.beta vE aN bw ?_
      have Wn:∀b∈e4 (β x),w'.heap[b]?=w.heap[b]?∧∀o,bm b o=I b o:=λb Y=>by
        obtain⟨ay,aG⟩:=Uv x o u b Y;exact⟨dw.frame b ay aG,λo=>dw.jY b ay aG o⟩
      have c5:∀b,cV (β x)=some b→w'.heap[b]?=w.heap[b]?∧∀o,bm b o=I b o:=λb Y=>Wn b (lF Y);cases o with
      |cO dy=>
        simp only[br]at ar ⊢;rcases ar with q|⟨Z,ay,aG⟩
        · exact .inl q
        · refine .inr ⟨Z,ay,aG.go hle λaX h5=>?_⟩
          obtain⟨s1,e8⟩:=Wn aX (by rw[ay];exact h5);exact⟨λ_=>s1,e8,id⟩
      |ic T xs t=>
        simp only[br]at ar ⊢;rcases ar with q|⟨aX,aT,arr,ay,aG,a1,aW,bt,b1,cE,dA,ef,eY,gb⟩
        · exact .inl q
        · obtain⟨s1,e8⟩:=c5 aX (by rw[ay];rfl)
          exact .inr ⟨aX,aT,arr,ay,aG,a1,s1.trans aW,bt,ov hle _ _ b1,cE,dA,ef,λo=>(e8 o).trans (eY o),gb⟩
      |vec T xs=>
        simp only[br]at ar ⊢;rcases ar with q|⟨aX,arr,ay,aG,a1,aW,bt⟩
        · exact .inl q
        · obtain⟨s1,e8⟩:=c5 aX (by rw[ay];rfl)
          exact .inr ⟨aX,arr,ay,s1.trans aG,a1,λo=>(e8 o).trans (aW o),bt⟩
      |jd es clock bO seen=>
        simp only[br]at ar ⊢;rcases ar with q|⟨r,ha,ay,aG,a1,aW,bt,b1,cE⟩
        · exact .inl q
        · obtain⟨s1,e8⟩:=c5 r (by rw[ay];rfl)
          exact .inr ⟨r,ha,ay,s1.trans aG,hle _ _ _ a1,nA hle _ _ aW,bt,λo=>(e8 o).trans (b1 o),cE⟩
      |e5 T e n gI=>
        simp only[br]at ar ⊢;rcases ar with q|⟨aX,aT,arr,Z,ay,aG,a1,aW,bt,b1,cE,dA,ef,eY⟩
        · exact .inl q
        · obtain⟨s1,e8⟩:=c5 aX (by rw[ay];rfl)
          exact .inr ⟨aX,aT,arr,Z,ay,aG,a1,s1.trans aW,bt,b1,cE,dA,λo=>(e8 o).trans (ef o),eY⟩
      |nO K E e mu gI fx=>
        simp only[br]at ar ⊢;rcases ar with q|⟨r,es,clock,Z,dU,ay,aG,a1,aW,bt,b1,cE,dA⟩
        · exact .inl q
        · obtain⟨s1,e8⟩:=c5 r (by rw[ay];rfl)
          exact .inr ⟨r,es,clock,Z,dU,ay,s1.trans aG,a1,aW,bt.mono hle,λo=>(e8 o).trans (b1 o),cE,dA⟩
      |cells T cs=>
        simp only[br]at ar ⊢;rcases ar with q|⟨aX,arr,ay,aG,a1,aW,bt⟩
        · exact .inl q
        · obtain⟨s1,e8⟩:=c5 aX (by rw[ay];rfl)
          exact .inr ⟨aX,arr,ay,s1.trans aG,vU hle (h8.refl β) _ _ a1,λo=>(e8 o).trans (aW o),bt⟩
      |slice T sz xs k dO=>
        simp only[br]at ar ⊢;rcases ar with q|q|⟨aX,aT,arr,ay,aG,a1,aW,bt,b1,cE,dA,ef,eY,gb⟩
        · exact .inl q
        · exact .inr (.inl q)
        · obtain⟨s1,e8⟩:=c5 aX (by rw[ay];rfl)
          exact .inr (.inr ⟨aX,aT,arr,ay,aG,a1,s1.trans aW,bt,ov hle _ _ b1,cE,dA,λhz o ar=>(e8 o).trans (ef hz o ar),λo ar=>(e8 o).trans (eY o ar),gb⟩)
      |win T sz xs=>
        simp only[br]at ar ⊢;rcases ar with q|q|⟨aX,hP,aT,arr,ay,aG,a1,aW,bt,b1,cE,dA,ef⟩
        · exact .inl q
        · exact .inr (.inl q)
        · obtain⟨s1,e8⟩:=c5 aX (by rw[ay];rfl)
          exact .inr (.inr ⟨aX,hP,aT,arr,ay,aG,a1,s1.trans aW,bt,AU hle _ _ _ b1,cE,λhz o ar=>(e8 o).trans (dA hz o ar),ef⟩)
      |map K E bO=>
        simp only[br]at ar ⊢;rcases ar with q|⟨r,es,clock,ay,aG,a1,aW,bt⟩
        · exact .inl q
        · obtain⟨s1,e8⟩:=c5 r (by rw[ay];rfl)
          exact .inr ⟨r,es,clock,ay,s1.trans aG,nA hle _ _ a1,λo=>(e8 o).trans (aW o),bt⟩
      |mO K E bO=>
        simp only[br]at ar ⊢;rcases ar with q|⟨r,es,clock,ay,aG,a1,aW,bt⟩
        · exact .inl q
        · exact .inr ⟨r,es,clock,ay,hle _ _ _ aG,nA hle _ _ a1,aW,bt⟩
      |ij es clock K E bO=>
        simp only[br]at ar ⊢;rcases ar with q|⟨r,ay,aG,a1,aW,bt⟩
        · exact .inl q
        · obtain⟨s1,e8⟩:=c5 r (by rw[ay];rfl)
          exact .inr ⟨r,ay,s1.trans aG,nA hle _ _ a1,λo=>(e8 o).trans (aW o),bt⟩
      |iter gV r9 mc seen=>
        simp only[br]at ar ⊢;rcases ar with q|⟨r,ha,ay,aG,a1,aW,bt⟩
        · exact .inl q
        · obtain⟨s1,e8⟩:=c5 r (by rw[ay];rfl)
          exact .inr ⟨r,ha,ay,aG,s1.trans a1,λo=>(e8 o).trans (aW o),bt⟩
      |hdr gV n=>exact ar
  ·
    have I6:∀x,(σ2.get x).isSome→(if x∈news then β' x else β x)=β' x:=λx u=>by
      obtain⟨o,u⟩:=Option.isSome_iff_exists.1 u;exact hm x (axC j3 x o u).1
    have wD:∀x,(ag.get (σ2++σ.minus ey.ids) x).isSome→(σ2.get x).isSome∨∃o,(σ.minus ey.ids).get x=some o:=λx u=>by
      rw[axQ]at u;cases D:σ2.get x with
      |some o=>exact .inl rfl
      |none=>rw[D]at u;exact .inr (Option.isSome_iff_exists.1 u)
    have mixed:∀x y,(σ2.get x).isSome→(∃o,(σ.minus ey.ids).get y=some o)→b∈e4 (β' x)→b∈e4 (β y)→False:=λx y u ⟨o,ak⟩ e1 e2=>by
      obtain⟨awu,u⟩:=Option.isSome_iff_exists.1 u;obtain⟨ay,aG⟩:=Uv y o ak b e2;rcases dw.placeOf u e1 with q|q
      · exact absurd q (by omega)
      · exact aG q
    show b∈e4 (if x∈news then β' x else β x)→b∉e4 (if y∈news then β' y else β y);rcases wD x u with h1|⟨hy,h1⟩<;>rcases wD y ak with D|⟨fS,D⟩
    · rw[I6 x h1,I6 y D]
      exact dw.eN x y h1 D di b
    · rw[I6 x h1,LL y fS D]
      exact λe1 e2=>mixed x y h1 ⟨fS,D⟩ e1 e2
    · rw[LL x hy h1,I6 y D]
      exact λe1 e2=>mixed y x D ⟨hy,h1⟩ e2 e1
    · rw[LL x hy h1,LL y fS D]
      exact h.eN x y (by rw[(c2 x hy h1).2];rfl) (by rw[(c2 y fS D).2];rfl) di b
  · have:x∉news:=λP8=>(be x P8).1 u
    simp only[this,if_false];exact h.keep x u
end after
section ops
variable {G:c7}{o:Oper}{ev:Operand→W}{σ:ag}
def Bb{I:bP}{β:Nat→Value}(ev:Operand→W)(bp:Operand→Value):∀(xs:List Operand),(∀x∈xs,aD I β (ev x) (bp x))→cw I β (xs.map ev) (xs.map bp)
 |[],_=>by simp[cw]
 |x::r,h=>by
  simp only[map_cons,cw];exact⟨bp x,r.map bp,rfl,h x (by simp),Bb ev bp r λy ak=>h y (by simp[ak])⟩
def G8{P:Program}{o:Oper}{hH:Operand}{args:Array Operand}{k:Array TypeId}{bp:Operand→Value}{f:FuncId}{vs:jj}{w:World}(h:o.op=.call ⟨.value hH,args,k⟩)(bc:bp hH=.func (.func f) #[] vs)
  (qM:∀(args:jj) (w:World),(callFunc f args).run P w=.ok (.enter f args) w):(execOp bp o).run P w=.ok (.enter f ((args.toList.map bp++vs.toList).toArray)) w:=by
 simp[execOp,h,resolve,bc,Deferred.ofValue,invoke,qM]
def b5.call{hH:Operand}{args:Array Operand}{k:Array TypeId}{f:FuncId}{aT dH:List W}{σs ey:ag}{r:W}(h:o.op=.call ⟨.value hH,args,k⟩)(bc:ev hH=.fn f aT)
  (qM:∀(args:jj) (w:World),(callFunc f args).run G.P w=.ok (.enter f args) w) (Z:∀p∈σs,σ.get p.1=some p.2) (aI:n9 σs (args.toList.map ev++aT) dH) (ah:∀p∈ey,σs.get p.1=some p.2)
  (bI:dn G.P f ey dH r) (aC:r.closed=true) (rB:ey.clean (λd=>!(ey.ids++[]).contains d)=true):Yields G o ev σ [] σs.ids r:=by
 intro aL cx I β w bp cz aA _ hop;have kS:=hop hH (by simp[h,Op.operands,Call.operands]);rw[bc]at kS;simp only[aD]at kS;obtain⟨vs,kS,oA⟩:=kS;rw[G8 h kS qM]
 have mI:∀d o,σs.get d=some o→aL.get d=some o:=λd o aa=>by
  obtain⟨p,cM,dY,fJ⟩:=tL σs d o aa;rw[cz d (by rw[←dY];exact List.mem_map.2 ⟨p,cM,rfl⟩),←dY,←fJ];exact Z p cM
 have AK:=aA.sub mI;have pG:=tg _ _ _ _ (Bb ev bp args.toList λx u=>hop x (by simp only[h,Op.operands,Call.operands];simp;right;simpa using u)) oA;have xE:=aI.rep AK _ pG;have PU:∀p∈ey,aL.get p.1=some p.2:=λp aK=>mI _ _ (ah p aK);have gi:=aA.BP (P:=G.P) PU;refine Calls.mono (bI _ w I β _ gi xE) ?_;rintro e w' ⟨v,he,r',σ2,bm,β',⟨sB,lK⟩,jx,gz⟩;subst sB lK;obtain⟨h1,D,aj⟩:=aA.after PU gz [] (by simp) (ax3 _) rB;refine⟨v,he,bm,β,?_,?_,D,λ_ _=>rfl⟩
 ·exact bk.rep β _ _ (aD.closed r' v aC jx)
 ·refine({h1 with}:cG G cx bm β (σ2++aL.minus σ2.ids) w').sub λd o aa=>?_;rw[axQ,axz];cases D:σ2.get d with
  |some hP=>
   obtain⟨p,cM,dY,fJ⟩:=tL σ2 d hP D;have:=PU p cM;rw[dY,fJ,aa]at this;simpa using this.symm
  |none=>
   have:d∉σ2.ids:=λhm=>by have:=ayA hm;rw[D]at this;cases this
   simp[this,aa]
def fP.call{hH:Operand}{args:Array Operand}{k:Array TypeId}{f:FuncId}{aT dH:List W}{ey:ag}{ih:W→ag→Prop}(news:ei)(h:o.op=.call ⟨.value hH,args,k⟩)(bc:ev hH=.fn f aT)
  (qM:∀(args:jj) (w:World),(callFunc f args).run G.P w=.ok (.enter f args) w) (Z:∀p∈ey,σ.get p.1=some p.2) (aI:n9 σ (args.toList.map ev++aT) dH)
  (bI:gZ G.P f ey dH ih) (be:news.all (λd=>!G.ids.contains d&&(σ.get d).isNone)=true) (iQ:(σ.minus ey.ids).clean news.contains=true)
  (j3:∀r σ2,ih r σ2→r.refs (λd=>!(ey.ids++news).contains d)=false∧σ2.clean (λd=>!(ey.ids++news).contains d)=true) :
  hK G o ev σ (ey.ids++news) news (λr aL=>∃σ2,ih r σ2∧aL=σ2++σ.minus ey.ids):=by
 intro cx I β w bp aA hop;have kS:=hop hH (by simp[h,Op.operands,Call.operands]);rw[bc]at kS;simp only[aD]at kS;obtain⟨vs,kS,oA⟩:=kS;rw[G8 h kS qM];have pG:=tg _ _ _ _ (Bb ev bp args.toList λx u=>hop x (by simp only[h,Op.operands,Call.operands];simp;right;simpa using u)) oA;have xE:=aI.rep aA _ pG;have gi:=aA.BP (P:=G.P) Z
 have CE:∀d∈news,d∉G.ids∧σ.get d=none:=λd aa=>by
  have:=List.all_eq_true.1 be d aa;simpa using this
 refine Calls.mono (bI _ w I β _ gi xE) ?_;rintro e w' ⟨v,he,r,σ2,bm,β',aK,jx,gz⟩;obtain⟨ga,bV⟩:=j3 r σ2 aK;obtain⟨h1,D,aj⟩:=aA.after Z gz news CE iQ bV;refine⟨v,he,r,_,bm,_,⟨σ2,aK,rfl⟩,aj r v ga jx,h1,D,λd aa=>by simp[aa],λd aa=>?_⟩;have aa:d∉ey.ids∧d∉news:=by simpa using aa
 rw[axQ,axz,if_neg aa.1];cases D:σ2.get d with
 |some hP=>
  have:=(axC bV d hP D).1;have:(ey.ids++news).contains d=true:=by rw[←Bool.not_eq_false'];exact this
  exact absurd (List.mem_append.1 (List.contains_iff_mem.1 this)) (by simp[aa.1,aa.2])
 |none=>rfl
def JU{P:Program}{w:World}{b off:Nat}{bl:TypeId}{arr:jj}(Y:w.heap[b]?=some (.cells arr bl (0,0)))(vs:fK)(aP:off+vs.length≤arr.size)(h1:∀v∈vs,v.oneCell'=true):
  (storeCells ⟨b,off,none⟩ vs).run P w=.ok () (w.setRow b (iT arr.toList off vs).toArray):=by
 have:=run_storeCells_at P b off bl vs 0 arr w Y (by simpa using aP) h1;simpa [iT]using this
def abZ{I:bP}{β:Nat→Value}{cs ds:List W}{vs b8:fK}(off:Nat)(h:cw I β cs vs)(dw:cw I β ds b8):cw I β (iT cs off ds) (iT vs off b8):=by
 unfold iT;rw[tf _ _ dw];exact tg _ _ _ _ (tg _ _ _ _ (Di _ _ _ h) dw) (Dh _ _ _ h)
def ag.set(d:Nat)(o:c4):ag→ag
 |[]=>[]
 |(k,x)::r=>bif Nat.beq k d then(k,o)::r else(k,x)::ag.set d o r
def axu(d:Nat)(o:c4):∀(σ:ag) (x:Nat),(ag.set d o σ).get x=if x=d then(σ.get d).map λ_=>o else σ.get x
 |[],x=>by simp[ag.set,ag.get]
 |(k,y)::r,x=>by
  simp only[ag.set];by_cases hk:k=d
  ·subst hk;simp only[Nat.beq_refl,cond_true,axp];by_cases u:k=x
   ·subst u;simp
   ·simp[u,Ne.symm u]
  ·have:Nat.beq k d=false:=by rw[←Bool.not_eq_true,Nat.beq_eq];exact hk
   simp only[this,cond_false,axp,axu d o r x];by_cases u:k=x
   ·subst u;simp[hk]
   ·simp[u,hk]
def ayo{T bl d p n:Nat}{x y:Operand}{a:W}{cs:List W}(h:o.op=.store T x y)(u:ev x=.ptr d p)(ak:ev y=a)(aa:σ.get d=some (.cells bl cs))(aR:∀w,(sizeOf T).run G.P w=.ok n w)
  (bc:a.flat=true) (be:(mY a).length=n) (aP:p+n≤cs.length) :
  hK G o ev σ [d] [] (λr aL=>r=.undef∧aL=σ.set d (.cells bl (iT cs p (mY a)))):=by
 intro cx I β w bp aA hop;have h1:=hop x (by simp[h,Op.operands]);rw[u]at h1
 have D:=hop y (by simp[h,Op.operands]);rw[ak]at D
 simp only[aD]at h1;obtain⟨b,h1,aj⟩:=h1;obtain⟨arr,ay,aG,a1,aW,bt⟩:=aA.box aa h1;obtain⟨f1,f2⟩:=aya bc D;have iw:=tf _ _ a1;have hx:=tf _ _ f1;simp only[Array.length_toList]at iw hx;have lB:=JU (P:=G.P) aG (bp y).cells.toList (off:=p) (by simp;omega) f2;have gF:(execOp bp o).run G.P w=.ok .skip (w.setRow b (iT arr.toList p (bp y).cells.toList).toArray):=by
  have e1:¬((bp y).cells.size≠n):=by omega
  simp[execOp,h,aj,Instr.storeAt,Instr.sureAddr,storeVar,aR,e1,lB]
 rw[gF];refine⟨.undef,_,I,β,⟨rfl,rfl⟩,by simp[aD,bk],?_,dc.refl I,λ_ _=>rfl,λx u=>by rw[axu,if_neg (by simpa using u)]⟩;have gw:cV (β d)=some b:=h1
 refine aA.turn (d:=d) (hJ.setRow w b _) bt (λx u=>by rw[axu,if_neg u]) (λx u Z e=>aA.eN x d Z (by rw[aa];rfl) u b e (lF gw)) (dc.refl I) (λ_ _ _=>rfl)
  (λo v ai=>by rw[aW o]at ai;cases ai) (aW none) (λ_ _=>rfl) (.inr rfl) (h8.refl β) (.inl gw) λaZ c5=>?_
 rw[axu,if_pos rfl,aa]at c5;injection c5 with c5
 subst c5;simp only[br];exact .inr ⟨b,_,ay,setRow_heap w b arr _ bl _ aG,by simpa using abZ p a1 f1,aW,bt⟩
end ops
end
section
structure jy(P:Program)(T E sz bytes:Nat):Prop where
 ia:P.underlying T=some (.slice E)
 info:∃i z,P.info? E=some i∧i.zero=some z∧i.size=sz∧i.bytes=bytes∧z.cells.size=sz
 pos:0<sz
def C8{I:bP}{b:Nat}{w:World}(bQ:∀b (o:Nat) v,I b o=some v→w.cell? ⟨b,o,none⟩=some v):∀(xs:List (List W)) (o:Nat),jF I b xs o→
  ∃vs:fK,cD I xs.flatten vs∧∀j v,vs[j]?=some v→w.cell? ⟨b,o+j,none⟩=some v
 |[],o,_=>⟨[],rfl,λj v h=>by simp at h⟩
 |e::r,o,h=>by
  simp only[jF]at h;obtain⟨vs,h1,D⟩:=Rq bQ e o h.1;obtain⟨b8,aj,aV⟩:=C8 bQ r (o+e.length) h.2;have aP:=oT _ _ h1;refine⟨vs++b8,by simp only[flatten_cons];exact(mC _ _ _).2 ⟨vs,b8,rfl,h1,aj⟩,λj v ai=>?_⟩;rcases Nat.lt_or_ge j vs.length with aY|aY
  ·rw[List.getElem?_append_left aY]at ai;exact D j v ai
  ·rw[List.getElem?_append_right aY]at ai;have:=aV (j-vs.length) v ai
   rwa [aP,show o+e.length+(j-e.length)=o+j from by omega]at this
def SX{I:bP}:∀(cs:List W) (vs:fK),cs.all W.one=true→cD I cs vs→∀v∈vs,v.oneCell'=true:=λcs vs ah h=>
 Mj (β:=λ_=>undef) cs vs ah (cD.rep _ cs vs h)
section ops
variable {G:c7}{o:Oper}{ev:Operand→W}{σ:ag}
def oS{P:Program}{o:Oper}{s x:Operand}{t:Nat}{bp:Operand→Value}{w w':World}{eP:Value}(h:o.op=.call ⟨.builtin .append,#[s,x],#[t,t]⟩)(aC:(Builtin.append_ #[t,t] o.type #[bp s,bp x]).run P w=.ok eP w'):
  (execOp bp o).run P w=.ok (.value eP) w':=by
 simp[execOp,h,resolve,invoke,builtin,aC]
def ab0{α:Type}(L news:List α)(n j:Nat)(aY:j<n)(be:n≤L.length):(L.take n++news++L.drop (n+news.length))[j]?=L[j]?:=by
 rw[List.append_assoc,List.getElem?_append_left (by rw[length_take];omega),getElem?_take,if_pos aY]
def fP.append{s x:Operand}{T E sz bytes d d2 bl k:Nat}{f dO:Bool}{xs bD:List (List W)}(h:o.op=.call ⟨.builtin .append,#[s,x],#[T,T]⟩)(Z:ev s=.own d)(aa:σ.get d=some (.slice bl sz xs k dO))(u:jk σ (ev x) (.bf f bD))(aR:jy G.P T E sz bytes)(iV:bl=E)
  (tH:∀e∈bD,e.length=sz) (h1:bD.flatten.all W.one=true) (Y:(xs.length+bD.length)*bytes≤140737488355328) (qw:xs.length+bD.length≤maxLen) (hi:G.ids.contains d2=false)
  (ah:(σ.minus [d]).clean [d2].contains=true) :
  hK G o ev σ [d,d2] [d2] (λr aL=>r=.own d2∧aL=(d2,.slice bl sz (xs++bD) k false)::σ.minus [d]):=by
 subst iV;intro cx I β w bp aA hop;have fU:=hop s (by simp[h,Op.operands,Call.operands]);rw[Z]at fU;simp only[aD]at fU;obtain⟨fU,fV⟩:=fU;have bF:=u.rep aA _ (hop x (by simp[h,Op.operands,Call.operands]));simp only[aD,bk]at bF;obtain⟨a,c,bF,eu,h7,_,lC⟩:=bF;obtain⟨i,z,iY,jB,jI,pN,xd⟩:=aR.info;have sy:∃news:fK,cD I bD.flatten news∧(bD.length=0∨∃ad:Addr,a=some ad∧∀j aq,news[j]?=some aq→w.cell? (ad.add j)=some aq):=by
  rcases lC with rfl|⟨b,o,rfl,aC⟩
  ·exact⟨[],rfl,.inl rfl⟩
  ·obtain⟨vs,ay,aG⟩:=C8 aA.good bD o aC;exact⟨vs,ay,.inr ⟨_,rfl,λj aq cF=>by rw[lG];exact aG j aq cF⟩⟩
 obtain⟨news,m8,n4⟩:=sy;have kj:news.length=bD.length*sz:=by rw[oT _ _ m8];exact yK bD tH
 have qB:=SX _ _ h1 m8;have lZ:xs.length+bD.length≤9223372036854775807:=by simp only[maxLen]at qw;omega
 have lM:cG G cx I β (σ.minus [d]) w:=aA.sub λx aZ u=>by rw[axz]at u;split at u<;>first|cases u|exact u
 have ng:=lM.rY (ew:=[d2]) (σ2:=(d2,.slice bl sz (xs++bD) k false)::σ.minus [d]) (env:=[]) ⟨λx u=>by rw[axp,if_neg (λe=>u (by simp[e]))],λx u=>by simp at u;subst u;simpa using hi,rfl,ah,λx u gV n h=>by simp at u;subst u;rw[axp,if_pos rfl]at h;cases h⟩;have hj:∀x,x≠d2→hL β [d2] x=β x:=λx u=>by simp[hL,u]
 have fin:∀(eP:Value) (w':World) (b:Nat),(execOp bp o).run G.P w=.ok (.value eP) w'→jX eP=true→hJ w w' b→Place cx b→(∀x,((σ.minus [d]).get x).isSome→b∉e4 (β x))→
   (∀(o:Nat) v,I b o=some v→w'.cell? ⟨b,o,none⟩=some v)→I b none=none→(cV eP=some b∨e4 eP=[])→br cx I (iL β d2 eP) w' d2 (.slice bl sz (xs++bD) k false)→
   mN G.P (λv w'=>∃(bZ:W) (aL:ag) (bm:bP) (β':Nat→Value),(bZ=.own d2∧aL=(d2,c4.slice bl sz (xs++bD) k false)::σ.minus [d])∧aD bm β' bZ v∧cG G cx bm β' aL w'∧dc I bm∧(∀x,x∉[d2]→β' x=β x)∧(∀x,x∉[d,d2]→aL.get x=σ.get x)) ((execOp bp o).run G.P w):=by
  intro eP w' b gF j4 hk aK pJ BI AG gw c5;rw[gF];refine⟨.own d2,_,I,iL β d2 eP,⟨rfl,rfl⟩,by simp only[aD,h0,j4,and_self],?_,dc.refl I,λx u=>iJ β eP (by simpa using u),λx u=>?_⟩
  ·refine ng.turn (d:=d2) hk aK (λ_ _=>rfl) (λx u lZ e=>?_) (dc.refl I) (λ_ _ _=>rfl) BI AG (λx u=>by rw[iJ β eP u,hj x u]) (.inl (by simpa using hi)) (λx=>?_) (by rw[h0];exact gw) (λaZ oG=>?_)
   ·rw[axp,if_neg (Ne.symm u)]at lZ;rw[hj x u]at e;exact pJ x lZ e
   ·by_cases u:x=d2
    ·left;simp[hL,u]
    ·right;rw[iJ β eP u,hj x u]
   ·rw[axp,if_pos rfl]at oG;injection oG with oG
    subst oG;exact c5
  ·have u:x≠d∧x≠d2:=by simpa using u
   rw[axp,if_neg (Ne.symm u.2),axz,if_neg (by simpa using u.1)]
 have rU:∀b,cV (β d)=some b→∀x,((σ.minus [d]).get x).isSome→b∉e4 (β x):=λb gw x u e=>by
  rw[axz]at u;split at u
  ·cases u
  ·rename_i o1;exact aA.eN x d u (by rw[aa];rfl) (by simpa using o1) b e (lF gw)
 have fresh:∀x,((σ.minus [d]).get x).isSome→w.heap.size∉e4 (β x):=λx u e=>by
  obtain⟨aZ,u⟩:=Option.isSome_iff_exists.1 u;exact absurd (lM.tN u e) (by omega)
 have yh:I w.heap.size none=none:=aA.jS (Nat.le_refl _) none;have zj:∀(w':World) (o:Nat) v,I w.heap.size o=some v→w'.cell? ⟨w.heap.size,o,none⟩=some v:=λw' o v ai=>by rw[aA.jS (Nat.le_refl _)]at ai;cases ai
 have tO:∀nt,nt<xs.length+bD.length→xs.length+bD.length≤grownCap w (xs.length+bD.length) nt bl∧grownCap w (xs.length+bD.length) nt bl≤maxLen:=λnt _=>⟨grownCap_ge _ _ _ _,grownCap_le_maxLen _ _ _ _ qw⟩
 have wo:∀(iF:fK) (aT:Nat),cD I xs.flatten iF→iF.length=xs.length*sz→(∀e∈xs,e.length=sz)→k≤xs.length→xs.length+bD.length≤aT→aT≤maxLen→
   br cx I (iL β d2 (.slice (some ⟨w.heap.size,0,none⟩) (xs.length+bD.length) aT)) (w.drew.alloc (.cells (iF.toArray++news.toArray++Builtin.zeroCells z.cells (aT-(xs.length+bD.length))) bl)) d2 (.slice bl sz (xs++bD) k false):=by
  intro iF aT rE lY FI avx qy n2;simp only[br,h0];have eH:(iF++news).length=(xs++bD).length*sz:=by rw[length_append,length_append,lY,kj,Nat.add_mul]
  refine .inr (.inr ⟨w.heap.size,aT,_,by rw[length_append],by rw[length_append];exact qy,n2,heap_alloc_new w.drew _,?_,?_,?_,by rw[length_append];omega,by simp,λo _=>aA.jS (Nat.le_refl _) o,.inl aA.size⟩)
  ·simp only[Array.size_append,size_toArray,size_zeroCells,xd,lY,kj,←Nat.add_mul];congr 1;omega
  ·have:(iF.toArray++news.toArray++Builtin.zeroCells z.cells (aT-(xs.length+bD.length))).toList.take ((xs++bD).length*sz)=iF++news:=by
    simp only[Array.toList_append,List.append_assoc];rw[←List.append_assoc,←eH];exact take_left
   rw[this,List.flatten_append];exact(mC _ _ _).2 ⟨_,_,rfl,rE,m8⟩
  ·intro e he;rcases List.mem_append.1 he with he|he
   ·exact FI e he
   ·exact tH e he
 have nq:∀aZ,hJ w (w.drew.alloc aZ) w.heap.size:=λaZ=>(hJ.alloc w.drew aZ).drew;have ar:=aA.dK d _ aa;simp only[br]at ar;rcases ar with q|⟨q,rfl,rfl⟩|⟨b,aT,arr,ay,aG,a1,aW,bt,b1,cE,dA,ef,eY,gb⟩
 ·rw[q]at fU;rw[fU]at fV;simp[jX]at fV
 ·
  rcases Nat.eq_zero_or_pos bD.length with hm|hm
  ·have ak:bD=[]:=eq_nil_of_length_eq_zero hm;subst ak;refine fin (.slice none 0 0) w w.heap.size (oS h ?_) rfl ⟨λ_ _ _=>rfl,Nat.le_refl _,rfl,rfl,rfl,Nat.le_refl _⟩ (.inl aA.size) fresh (zj w) yh (.inr rfl) ?_
   ·rw[fU,bF,q];cases a<;>simp[Builtin.append_,run_underlying aR.ia,Go.sizeOf,typeInfo,iY,Builtin.lenOf,Builtin.firstCells,loadCells,loadCellsFrom]
   ·simp only[br,h0];exact .inr (.inl ⟨trivial,rfl,trivial⟩)
  ·obtain⟨ad,rfl,lU⟩:=n4.resolve_left (by omega);have aC:=run_append_nil (P:=G.P) w T o.type bl i z aR.ia iY jB ad bD.length c news (by rw[jI];exact kj) lU hm (by simp at lZ;omega) (by simp at Y;rw[pN];omega);obtain⟨cZ,c8⟩:=tO 0 (by simp;exact hm);simp only[length_nil,Nat.zero_add]at cZ c8;refine fin _ _ w.heap.size (oS h (by rw[fU,bF,q];exact aC)) rfl (nq _) (.inl aA.size) fresh (zj _) yh (.inl rfl) ?_;have:=wo [] (grownCap w bD.length 0 bl) rfl (by simp) (by simp) (Nat.le_refl _) (by simpa using cZ) c8;simpa using this
 ·have gw:cV (β d)=some b:=by rw[ay];rfl
  have cq:=hZ aW;have uI:arr.toList.length=aT*sz:=by simpa using bt
  have mJ:xs.length*sz≤arr.toList.length:=by rw[uI];exact Nat.mul_le_mul_right _ aG
  have PD:∀(o:Nat) v,I b o=some v→o<xs.length*sz:=λo v ai=>by
   rcases Nat.lt_or_ge o (k*sz)with hk|hk
   ·exact Nat.lt_of_lt_of_le hk (Nat.mul_le_mul_right _ dA)
   ·rw[eY o hk]at ai;cases ai
  by_cases rG:xs.length+bD.length≤aT
  ·
   have eH:(arr.toList.take (xs.length*sz)++news).length=(xs++bD).length*sz:=by rw[length_append,length_take,Nat.min_eq_left mJ,length_append,kj,Nat.add_mul]
   have B4:∀(w':World) (o7:jj),w'.heap[b]?=some (.cells o7 bl (0,0))→o7.toList=arr.toList.take (xs.length*sz)++news++arr.toList.drop (xs.length*sz+news.length)→
     br cx I (iL β d2 (.slice (some ⟨b,0,none⟩) (xs.length+bD.length) aT)) w' d2 (.slice bl sz (xs++bD) k false):=by
    intro w' o7 ct he;simp only[br,h0];refine .inr (.inr ⟨b,aT,o7,by rw[length_append],by rw[length_append];exact rG,a1,ct,?_,?_,?_,by rw[length_append];omega,by simp,eY,gb⟩)
    ·have avE:xs.length*sz+news.length≤arr.toList.length:=by rw[kj,←Nat.add_mul,uI];exact Nat.mul_le_mul_right _ rG
     have anU:o7.size=o7.toList.length:=by simp
     rw[anU,he,←uI];simp only[length_append,length_take,length_drop];omega
    ·rw[he,←eH,take_left,List.flatten_append];exact(mC _ _ _).2 ⟨_,_,rfl,b1,m8⟩
    ·intro e he;rcases List.mem_append.1 he with he|he
     ·exact cE e he
     ·exact tH e he
   rcases Nat.eq_zero_or_pos bD.length with hm|hm
   ·have ak:bD=[]:=eq_nil_of_length_eq_zero hm;subst ak;have aoU:news=[]:=eq_nil_of_length_eq_zero (by simpa using kj);subst aoU;refine fin (.slice (some ⟨b,0,none⟩) xs.length aT) w b (oS h ?_) rfl ⟨λ_ _ _=>rfl,Nat.le_refl _,rfl,rfl,rfl,Nat.le_refl _⟩ gb (rU b gw) (λo v ai=>aA.good b o v ai) (aA.uZ aW) (.inl rfl) ?_
    ·rw[fU,bF,ay];cases a<;>simp[Builtin.append_,run_underlying aR.ia,Go.sizeOf,typeInfo,iY,Builtin.lenOf,Builtin.firstCells,loadCells,loadCellsFrom,aG,storeCells]
    ·have:=B4 w arr aW (by simp);simpa using this
   ·obtain⟨ad,rfl,lU⟩:=n4.resolve_left (by omega);have uM:xs.length*i.size+news.length≤arr.size:=by rw[jI,kj,bt,←Nat.add_mul];exact Nat.mul_le_mul_right _ rG
    have aC:=run_append_room (P:=G.P) w T o.type bl i aR.ia iY b xs.length aT arr aW ad bD.length c news (by rw[jI];exact kj) lU qB rG uM;rw[jI]at aC;refine fin _ _ b (oS h (by rw[fU,bF,ay];exact aC)) rfl (hJ.setRow w b _) gb (rU b gw) (λo v ai=>?_) (aA.uZ aW) (.inl rfl) (B4 _ _ (setRow_heap w b arr _ bl _ aW) rfl);have bQ:=aA.good b o v ai;simp only[World.cell?,aW]at bQ;simp only[World.cell?,setRow_heap w b arr _ bl _ aW];have bQ:arr.toList[o]?=some v:=by simpa using bQ
    have:=ab0 arr.toList news (xs.length*sz) o (PD o v ai) mJ;rw[bQ]at this;simpa using this
  ·
   have hm:0<bD.length:=by omega
   obtain⟨ad,rfl,lU⟩:=n4.resolve_left (by omega);have rF:(arr.toList.take (xs.length*sz)).length=xs.length*sz:=by rw[length_take,Nat.min_eq_left mJ]
   have holds:∀j v,(arr.toList.take (xs.length*sz))[j]?=some v→w.cell? ((⟨b,0,none⟩:Addr).add j)=some v:=λj v ai=>by
    rw[lG];rw[getElem?_take]at ai;split at ai
    ·simp only[World.cell?,aW,Nat.zero_add];simpa using ai
    ·cases ai
   have aC:=run_append_grow (P:=G.P) w T o.type bl i z aR.ia iY jB ⟨b,0,none⟩ xs.length aT _ (by rw[jI];exact rF) holds ad bD.length c news (by rw[jI];exact kj) lU (by omega) (by omega) (growslice_fits (by omega) (by rw[pN];exact Y));obtain⟨cZ,c8⟩:=tO aT (by omega);exact fin _ _ w.heap.size (oS h (by rw[fU,bF,ay];exact aC)) rfl (nq _) (.inl aA.size) fresh (zj _) yh (.inl rfl) (wo _ _ b1 rF cE dA cZ c8)
def ayp{s x:Operand}{T E sz bytes d2:Nat}{f:Bool}{xs bD:List (List W)}(h:o.op=.call ⟨.builtin .append,#[s,x],#[T,T]⟩)(Z:(ev s=.dh∧xs=[])∨(ev s=.bf true xs∧0<bD.length))(u:jk σ (ev x) (.bf f bD))(aR:jy G.P T E sz bytes)
  (AM:∀e∈xs,e.length=sz) (tH:∀e∈bD,e.length=sz) (h1:bD.flatten.all W.one=true) (Y:(xs.length+bD.length)*bytes≤140737488355328) (qw:xs.length+bD.length≤maxLen) (hi:G.ids.contains d2=false)
  (ah:σ.clean [d2].contains=true) :
  hK G o ev σ [d2] [d2] (λr aL=>r=.own d2∧aL=(d2,.slice E sz (xs++bD) 0 false)::σ):=by
 intro cx I β w bp aA hop;have fU:=hop s (by simp[h,Op.operands,Call.operands]);have bF:=u.rep aA _ (hop x (by simp[h,Op.operands,Call.operands]));simp only[aD,bk]at bF;obtain⟨a,c,bF,eu,h7,_,lC⟩:=bF;obtain⟨i,z,iY,jB,jI,pN,xd⟩:=aR.info;have sy:∃news:fK,cD I bD.flatten news∧(bD.length=0∨∃ad:Addr,a=some ad∧∀j aq,news[j]?=some aq→w.cell? (ad.add j)=some aq):=by
  rcases lC with rfl|⟨b,o,rfl,aC⟩
  ·exact⟨[],rfl,.inl rfl⟩
  ·obtain⟨vs,ay,aG⟩:=C8 aA.good bD o aC;exact⟨vs,ay,.inr ⟨_,rfl,λj aq cF=>by rw[lG];exact aG j aq cF⟩⟩
 obtain⟨news,m8,n4⟩:=sy;have kj:news.length=bD.length*sz:=by rw[oT _ _ m8];exact yK bD tH
 have lZ:xs.length+bD.length≤9223372036854775807:=by simp only[maxLen]at qw;omega
 have ng:=aA.rY (ew:=[d2]) (σ2:=(d2,.slice E sz (xs++bD) 0 false)::σ) (env:=[]) ⟨λx u=>by rw[axp,if_neg (λe=>u (by simp[e]))],λx u=>by simp at u;subst u;simpa using hi,rfl,ah,λx u gV n h=>by simp at u;subst u;rw[axp,if_pos rfl]at h;cases h⟩;have hj:∀x,x≠d2→hL β [d2] x=β x:=λx u=>by simp[hL,u]
 have fresh:∀x,(σ.get x).isSome→w.heap.size∉e4 (β x):=λx u e=>by
  obtain⟨aZ,u⟩:=Option.isSome_iff_exists.1 u;exact absurd (aA.tN u e) (by omega)
 have yh:I w.heap.size none=none:=aA.jS (Nat.le_refl _) none;have zj:∀(w':World) (o:Nat) v,I w.heap.size o=some v→w'.cell? ⟨w.heap.size,o,none⟩=some v:=λw' o v ai=>by rw[aA.jS (Nat.le_refl _)]at ai;cases ai
 have fin:∀(eP:Value) (w':World),(execOp bp o).run G.P w=.ok (.value eP) w'→jX eP=true→hJ w w' w.heap.size→(cV eP=some w.heap.size∨e4 eP=[])→br cx I (iL β d2 eP) w' d2 (.slice E sz (xs++bD) 0 false)→
   mN G.P (λv w'=>∃(bZ:W) (aL:ag) (bm:bP) (β':Nat→Value),(bZ=.own d2∧aL=(d2,c4.slice E sz (xs++bD) 0 false)::σ)∧aD bm β' bZ v∧cG G cx bm β' aL w'∧dc I bm∧(∀x,x∉[d2]→β' x=β x)∧(∀x,x∉[d2]→aL.get x=σ.get x)) ((execOp bp o).run G.P w):=by
  intro eP w' gF j4 hk gw c5;rw[gF];refine⟨.own d2,_,I,iL β d2 eP,⟨rfl,rfl⟩,by simp only[aD,h0,j4,and_self],?_,dc.refl I,λx u=>iJ β eP (by simpa using u),λx u=>?_⟩
  ·refine ng.turn (d:=d2) hk (.inl aA.size) (λ_ _=>rfl) (λx u lZ e=>?_) (dc.refl I) (λ_ _ _=>rfl) (zj w') yh (λx u=>by rw[iJ β eP u,hj x u]) (.inl (by simpa using hi)) (λx=>?_) (by rw[h0];exact gw) (λaZ oG=>?_)
   ·rw[axp,if_neg (Ne.symm u)]at lZ;rw[hj x u]at e;exact fresh x lZ e
   ·by_cases u:x=d2
    ·left;simp[hL,u]
    ·right;rw[iJ β eP u,hj x u]
   ·rw[axp,if_pos rfl]at oG;injection oG with oG
    subst oG;exact c5
  ·have u:x≠d2:=by simpa using u
   rw[axp,if_neg (Ne.symm u)]
 have tO:∀nt,nt<xs.length+bD.length→xs.length+bD.length≤grownCap w (xs.length+bD.length) nt E∧grownCap w (xs.length+bD.length) nt E≤maxLen:=λnt _=>⟨grownCap_ge _ _ _ _,grownCap_le_maxLen _ _ _ _ qw⟩
 have wo:∀(iF:fK) (aT:Nat),cD I xs.flatten iF→iF.length=xs.length*sz→xs.length+bD.length≤aT→aT≤maxLen→
   br cx I (iL β d2 (.slice (some ⟨w.heap.size,0,none⟩) (xs.length+bD.length) aT)) (w.drew.alloc (.cells (iF.toArray++news.toArray++Builtin.zeroCells z.cells (aT-(xs.length+bD.length))) E)) d2 (.slice E sz (xs++bD) 0 false):=by
  intro iF aT rE lY qy n2;simp only[br,h0];have eH:(iF++news).length=(xs++bD).length*sz:=by rw[length_append,length_append,lY,kj,Nat.add_mul]
  refine .inr (.inr ⟨w.heap.size,aT,_,by rw[length_append],by rw[length_append];exact qy,n2,heap_alloc_new w.drew _,?_,?_,?_,by omega,by simp,λo _=>aA.jS (Nat.le_refl _) o,.inl aA.size⟩)
  ·simp only[Array.size_append,size_toArray,size_zeroCells,xd,lY,kj,←Nat.add_mul];congr 1;omega
  ·have:(iF.toArray++news.toArray++Builtin.zeroCells z.cells (aT-(xs.length+bD.length))).toList.take ((xs++bD).length*sz)=iF++news:=by
    simp only[Array.toList_append,List.append_assoc];rw[←List.append_assoc,←eH];exact take_left
   rw[this,List.flatten_append];exact(mC _ _ _).2 ⟨_,_,rfl,rE,m8⟩
  ·intro e he;rcases List.mem_append.1 he with he|he
   ·exact AM e he
   ·exact tH e he
 have nq:∀aZ,hJ w (w.drew.alloc aZ) w.heap.size:=λaZ=>(hJ.alloc w.drew aZ).drew;rcases Z with⟨Z,rfl⟩|⟨Z,hm⟩
 ·rw[Z]at fU;simp only[aD,bk]at fU;rcases Nat.eq_zero_or_pos bD.length with hm|hm
  ·have ak:bD=[]:=eq_nil_of_length_eq_zero hm;subst ak;refine fin (.slice none 0 0) w (oS h ?_) rfl ⟨λ_ _ _=>rfl,Nat.le_refl _,rfl,rfl,rfl,Nat.le_refl _⟩ (.inr rfl) ?_
   ·rw[fU,bF];cases a<;>simp[Builtin.append_,run_underlying aR.ia,Go.sizeOf,typeInfo,iY,Builtin.lenOf,Builtin.firstCells,loadCells,loadCellsFrom]
   ·simp only[br,h0];exact .inr (.inl ⟨trivial,rfl,trivial⟩)
  ·obtain⟨ad,rfl,lU⟩:=n4.resolve_left (by omega);have aC:=run_append_nil (P:=G.P) w T o.type E i z aR.ia iY jB ad bD.length c news (by rw[jI];exact kj) lU hm (by simp at lZ;omega) (by simp at Y;rw[pN];omega);obtain⟨cZ,c8⟩:=tO 0 (by simp;exact hm);simp only[length_nil,Nat.zero_add]at cZ c8;refine fin _ _ (oS h (by rw[fU,bF];exact aC)) rfl (nq _) (.inl rfl) ?_;have:=wo [] (grownCap w bD.length 0 E) rfl (by simp) (by simpa using cZ) c8;simpa using this
 ·rw[Z]at fU;simp only[aD,bk]at fU;obtain⟨a0,mc,fU,_,_,oA,jm⟩:=fU;have oA:=oA trivial;subst oA;obtain⟨ad,rfl,lU⟩:=n4.resolve_left (by omega);rcases jm with rfl|⟨b,p,rfl,jm⟩
  ·
   obtain⟨cZ,c8⟩:=tO 0 (by simp;exact hm);simp only[length_nil,Nat.zero_add]at cZ c8;cases a0 with
   |none=>
    have aC:=run_append_nil (P:=G.P) w T o.type E i z aR.ia iY jB ad bD.length c news (by rw[jI];exact kj) lU hm (by simp at lZ;omega) (by simp at Y;rw[pN];omega);refine fin _ _ (oS h (by rw[fU,bF];exact aC)) rfl (nq _) (.inl rfl) ?_;have:=wo [] (grownCap w bD.length 0 E) rfl (by simp) (by simpa using cZ) c8;simpa using this
   |some g6=>
    have aC:=run_append_grow (P:=G.P) w T o.type E i z aR.ia iY jB g6 0 0 [] (by simp) (by simp) ad bD.length c news (by rw[jI];exact kj) lU (by omega) (by simp at lZ;omega) (growslice_fits (by omega) (by rw[pN];simpa using Y));simp only[Nat.zero_add]at aC;refine fin _ _ (oS h (by rw[fU,bF];exact aC)) rfl (nq _) (.inl rfl) ?_;have:=wo [] (grownCap w bD.length 0 E) rfl (by simp) (by simpa using cZ) c8;simpa using this
  ·obtain⟨iF,hy,fS⟩:=C8 aA.good xs p jm;have rF:iF.length=xs.length*sz:=by rw[oT _ _ hy];exact yK xs AM
   have aC:=run_append_grow (P:=G.P) w T o.type E i z aR.ia iY jB ⟨b,p,none⟩ xs.length xs.length iF (by rw[jI];exact rF) (λj v ai=>by rw[lG];exact fS j v ai) ad bD.length c news (by rw[jI];exact kj) lU (by omega) (by omega) (growslice_fits (by omega) (by rw[pN];exact Y));obtain⟨cZ,c8⟩:=tO xs.length (by omega);exact fin _ _ (oS h (by rw[fU,bF];exact aC)) rfl (nq _) (.inl rfl) (wo _ _ hy rF cZ c8)
def b5.makeFunc{f:FuncId}{aT:Array Operand}(h:o.op=.makeFunc (.func f) #[] aT):Yields G o ev σ [] [] (.fn f (aT.toList.map ev)):=
 .pure λaL cx I β w bp cz aA hop=>by
  refine⟨.func (.func f) #[] (aT.map bp),by simp[execOp,h,Instr.makeFunc],?_⟩;simp only[aD];exact⟨_,rfl,by simpa using Bb ev bp aT.toList λx u=>hop x (by simp only[h,Op.operands];simpa using u)⟩
structure g7(P:Program)(T f off n:Nat)(ej:Bool):Prop where
 run:∀(cs:jj) w,off+n≤cs.size→(Instr.field T (.agg cs) f).run P w=.ok (if ej then .agg (cs.extract off (off+n))else cs.getD off undef) w
 pos:ej=false→n=1
def b5.field{T f off n:Nat}{ej:Bool}{x:Operand}{cs:List W}(h:o.op=.field T x f)(u:ev x=.agg cs)(aR:g7 G.P T f off n ej)(be:Nat.ble (off+n) cs.length=true):Yields G o ev σ [] [] (od ej n (cs.drop off)):=
 .pure λaL cx I β w bp cz aA hop=>by
  have h1:=hop x (by simp[h,Op.operands]);rw[u]at h1
  simp only[aD]at h1;obtain⟨vs,h1,D⟩:=h1;have aP:=tf _ _ D;simp only[Array.length_toList]at aP;have be:off+n≤cs.length:=by simpa using be
  have aa:=Dh off _ _ D;refine⟨_,by simp only[execOp,h,h1,Sem.run_bind,aR.run vs w (by omega),Result.andThen_ok,Sem.run_pure];rfl,?_⟩;cases ej with
  |true=>
   simp only[od,cond_true,if_true,aD];refine⟨_,rfl,?_⟩;have:=Di n _ _ aa;simpa [Array.toList_extract,extract_eq_take_drop]using this
  |false=>
   simp only[od,cond_false,Bool.false_eq_true,if_false];have aK:=aR.pos rfl;have cq:off<vs.size:=by omega
   have e:vs.toList.drop off=vs[off]::vs.toList.drop (off+1):=by rw[drop_eq_getElem_cons (by simpa using cq)];simp
   rw[e]at aa;rw[Array.getD_eq_getD_getElem?,Array.getElem?_eq_getElem cq];generalize cs.drop off=ds at aa;cases ds with
   |nil=>simp[aD]
   |cons y r=>
    simp only[cw]at aa;obtain⟨aq,b8,e,aa,_⟩:=aa;cases e;exact aa
def Kt{I:bP}{b sz:Nat}:∀(l:Nat) (xs:List (List W)) (o:Nat),(∀e∈xs,e.length=sz)→jF I b xs o→jF I b (xs.drop l) (o+l*sz)
 |0,xs,o,_,h=>by simpa using h
 |l+1,[],o,_,_=>by simp[jF]
 |l+1,e::r,o,aP,h=>by
  simp only[jF]at h;have he:=aP e (by simp);have:=Kt l r (o+e.length) (λx u=>aP x (by simp[u])) h.2;rw[he]at this;rw[Nat.add_mul,Nat.one_mul];simpa [Nat.add_assoc,Nat.add_comm sz]using this
def Rj{I:bP}{b:Nat}:∀(h:Nat) (xs:List (List W)) (o:Nat),jF I b xs o→jF I b (xs.take h) o
 |0,_,_,_=>by simp[jF]
 |h+1,[],_,_=>by simp[jF]
 |h+1,e::r,o,ct=>by
  simp only[jF,take_succ_cons]at ct ⊢;exact⟨ct.1,Rj h r _ ct.2⟩
def run_sliceBound{P:Program}{k:IntKind}{n:Int}{y:Nat}{code:BoundsCode}{w:World}(h:0≤n∧n≤(y:Int)):(Instr.sliceBound (.int k n) y code).run P w=.ok n.toNat w:=by
 unfold Instr.sliceBound;simp only[asIntOf,Sem.run_bind,Sem.run_pure,Result.andThen_ok];rw[if_pos h];rfl
def ni(ev:Operand→W):Option Operand→Int|none=>0|some x=>match ev x with|.int _ n=>n|_=>-1
def uf(ev:Operand→W)(len:Nat):Option Operand→Int|none=>len|some x=>match ev x with|.int _ n=>n|_=>-1
def BJ{I:bP}{β:Nat→Value}{bp:Operand→Value}{x:Operand}(h:∃k n,ev x=.int k n)(u:aD I β (ev x) (bp x)):∃k n,ev x=.int k n∧bp x=.int k n:=by
 obtain⟨k,n,h⟩:=h;rw[h]at u;exact⟨k,n,h,jT u⟩
def zc(ev:Operand→W):Option Operand→Prop|none=>True|some x=>∃k n,ev x=.int k n
def b5.slice{T E sz:Nat}{x:Operand}{f:Bool}{lo hi:Option Operand}{xs:List (List W)}(h:o.op=.slice T x lo hi none)(u:jk σ (ev x) (.bf f xs))(aR:ji G.P T E sz)(eH:∀e∈xs,e.length=sz)(CP:zc ev lo)(Qe:zc ev hi)
  (lX:0≤ni ev lo∧ni ev lo≤uf ev xs.length hi∧uf ev xs.length hi≤xs.length) (R:ei) (cz:∀aL:ag,(∀d∈R,aL.get d=σ.get d)→jk aL (ev x) (.bf f xs)) :
  Yields G o ev σ [] R (.bf false ((xs.take (uf ev xs.length hi).toNat).drop (ni ev lo).toNat)):=
 .pure λaL cx I β w bp Pc aA hop=>by
  have h1:=(cz aL Pc).rep aA _ (hop x (by simp[h,Op.operands]));simp only[aD,bk]at h1;obtain⟨a,c,h1,D,aj,_,aV⟩:=h1;generalize aP:ni ev lo=l at lX ⊢;generalize ct:uf ev xs.length hi=aq at lX ⊢;have e1:(Instr.sliceBounds true xs.length c (lo.map bp) (hi.map bp) none).run G.P w=.ok (l.toNat,aq.toNat,c) w:=by
   have cF:0≤aq∧aq≤(c:Int):=by omega
   have yz:0≤l∧l≤(aq.toNat:Int):=by omega
   cases hi with
   |none=>
    simp only[uf]at ct;subst ct;cases lo with
    |none=>
     simp only[ni]at aP;subst aP;simp[Instr.sliceBounds]
    |some y=>
     obtain⟨k,n,ay,aG⟩:=BJ CP (hop y (by simp[h,Op.operands]));simp only[ni,ay]at aP;subst aP;have:=run_sliceBound (P:=G.P) (k:=k) (code:=.sliceB) (w:=w) yz;simp only[Int.toNat_natCast]at this;simp[Instr.sliceBounds,aG,this]
   |some z=>
    obtain⟨Qn,aqe,kG,l8⟩:=BJ Qe (hop z (by simp[h,Op.operands]));simp only[uf,kG]at ct;subst ct;have iG:=run_sliceBound (P:=G.P) (k:=Qn) (code:=.sliceAcap) (w:=w) cF;cases lo with
    |none=>
     simp only[ni]at aP;subst aP;simp[Instr.sliceBounds,l8,iG]
    |some y=>
     obtain⟨k,n,ay,aG⟩:=BJ CP (hop y (by simp[h,Op.operands]));simp only[ni,ay]at aP;subst aP;have:=run_sliceBound (P:=G.P) (k:=k) (code:=.sliceB) (w:=w) yz;simp[Instr.sliceBounds,l8,iG,aG,this]
  have gF:(execOp bp o).run G.P w=.ok (.value (.slice (if c=l.toNat then a else a.map (·.add (l.toNat*sz))) (aq.toNat-l.toNat) (c-l.toNat))) w:=by
   have e2:∀w,(underlying T).run G.P w=.ok (.slice E) w:=λw=>run_underlying aR.ia w;simp only[execOp,h,Instr.sliceAt,Instr.slice,h1,Sem.run_bind,e2,Result.andThen_ok,e1,aR.size,Sem.run_pure,Option.map_none]
  refine⟨_,gF,?_⟩;simp only[aD,bk];have yB:((xs.take aq.toNat).drop l.toNat).length=aq.toNat-l.toNat:=by rw[length_drop,length_take];omega
  refine⟨_,c-l.toNat,by rw[yB],by rw[yB];omega,by omega,by simp,?_⟩;by_cases he:(xs.take aq.toNat).drop l.toNat=[]
  ·exact .inl he
  ·right;have cq:l.toNat<aq.toNat:=by
    rcases Nat.lt_or_ge l.toNat aq.toNat with q|q
    ·exact q
    ·exact absurd (eq_nil_of_length_eq_zero (by rw[yB];omega)) he
   rcases aV with rfl|⟨b,p,rfl,aV⟩
   ·simp at he
   ·refine⟨b,p+l.toNat*sz,?_,Kt _ _ _ (λe ct=>eH e (mem_of_mem_take ct)) (Rj _ _ _ aV)⟩;rw[if_neg (by omega)];simp[lG]
end ops
end
end Go.Proofs.YtmnbolcmepihlaaGreat
