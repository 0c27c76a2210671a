/- Several texts in one. No condition but those that stand in each. -/
import Derived.Test.YtmnbolcmepihlaaGreatZ4
import Derived.Test.YtmnbolcmepihlaaGreatZ3
namespace Go.Proofs.YtmnbolcmepihlaaGreat
section
set_option linter.all false
open Go List
section
def aiT(l:cN)(aP:l.length≤1000000):F1 l=some (kX (λa b=>decide (a<b)) l):=by
 unfold F1
 refine(yQ (λa b:Int=>decide (a<b)) (some false) (λj x y r q s bM fQ aY=>by
  simp only[v1 fQ aY (by omega),bC];by_cases h:y<x
  ·have:¬x≤y:=by omega
   simp[h,this]
  ·have:x≤y:=by omega
   simp[h,this]) _).trans ?_
 cases kX (λa b:Int=>decide (a<b)) l<;>rfl
def kB(l:dJ):yO:=[bW.mk (aQ.mk l.A l.B) l.ki,bW.mk (aQ.mk l.B l.A) l.lJ]
def jW(g:bu):yO:=g.Links.flatMap kB
def TP{α mz β:Type}{B:Int→α→(List mz→Option β)→List mz→Option β}{K:List mz→Option β}(f:α→List mz)(fq:∀j x bM s,B j x bM s=aB (jf s (f x)) λl=>bM l)(k:Nat)(hk:∀x,(f x).length≤k):∀(l:List α) (j:Nat) (s:List mz),s.length+k*l.length≤1000000→cK l j B K s=K (s++l.flatMap f)
 |[],j,s,_=>by simp[cK]
 |x::r,j,s,h=>by
  have:=hk x;simp only[length_cons,Nat.mul_add,Nat.mul_one]at h;rw[cK,fq,oy (by omega),bC,TP f fq k hk r (j+1) _ (by simp;omega)];simp
def u1{g:bu}{a:bW}:a∈jW g↔∃l∈g.Links,a=bW.mk (aQ.mk l.A l.B) l.ki∨a=bW.mk (aQ.mk l.B l.A) l.lJ:=by
 simp[jW,kB]
def Nc{a b:aQ}(h:a≠b):gD [λx:aQ=>x.bh,λx:aQ=>x.aS] a b<0∨gD [λx:aQ=>x.bh,λx:aQ=>x.aS] b a<0:=by
 rw[p7,p7,p7,p7];have D:a.bh≠b.bh∨a.aS≠b.aS:=by
  apply Classical.byContradiction;intro be;have e1:a.bh=b.bh:=Classical.byContradiction λx=>be (.inl x);have e2:a.aS=b.aS:=Classical.byContradiction λx=>be (.inr x);apply h;cases a;cases b
  simp only at e1 e2;rw[e1,e2]
 simp only[gD];omega
def M0{g:bu}(ai:iq g):(jW g).Pairwise λa b=>a.Hop≠b.Hop:=by
 unfold jW;rw[pairwise_flatMap];refine⟨λl aP=>?_,ai.ER.imp_of_mem λ{a b} aI Y jH=>?_⟩
 ·have:=ai.lt l aP;simp only[kB,pairwise_cons,mem_cons,not_mem_nil,or_false,forall_eq,Pairwise.nil,and_true,false_imp_iff,implies_true];intro h;injection h with h1 D
  omega
 ·have h1:=ai.lt a aI;have D:=ai.lt b Y;simp only[mR,Bool.or_eq_true,Bool.and_eq_true,decide_eq_true_eq]at jH;intro x u y ak;simp only[kB,mem_cons,not_mem_nil,or_false]at u ak;rcases u with rfl|rfl<;>rcases ak with rfl|rfl<;>(simp only;intro h;injection h with aj aV;omega)
def aet{l:dJ}(h:qU l=false):(1≤l.ki∧l.ki≤1000)∧1≤l.lJ∧l.lJ≤1000:=by
 simp only[qU,zu,Bool.or_eq_false_iff,Bool.not_eq_false',Bool.and_eq_true,decide_eq_true_eq]at h;exact⟨h.1.1.1,h.1.1.2⟩
def Bh(g:bu):(jW g).length=2*g.Links.length:=by
 unfold jW;induction g.Links with
 |nil=>rfl
 |cons a r bX=>rw[flatMap_cons,length_append,bX];simp[kB];omega
def Vg{α mz:Type}{f:α→mz}:∀{l:List α},(l.Pairwise λa b=>f a≠f b)→∀a∈l,∀b∈l,f a=f b→a=b
 |[],_,a,aI,_,_,_=>by cases aI
 |x::r,h,a,aI,b,Y,e=>by
  rw[pairwise_cons]at h;rcases mem_cons.1 aI with h1|h1<;>rcases mem_cons.1 Y with D|D
  ·rw[h1,D]
  ·subst h1;exact absurd e (h.1 b D)
  ·subst D;exact absurd e.symm (h.1 a h1)
  ·exact Vg h.2 a h1 b D e
def M1{g:bu}(ai:iq g):pR (jW g):=by
 refine⟨λa aI=>?_,λa aI=>?_,Vg (M0 ai),?_⟩
 ·obtain⟨l,aP,h⟩:=u1.1 aI;have:=aet (ai.Kj l aP);rcases h with rfl|rfl<;>(simp only;omega)
 ·obtain⟨l,aP,h⟩:=u1.1 aI;have h1:=ai.ends l aP;have D:=Hj.1 h1.1;have aj:=Hj.1 h1.2;obtain⟨x,u,eu⟩:=D;obtain⟨y,ak,qD⟩:=aj;have aV:=ai.CN x u;have b4:=ai.CN y ak;rcases h with rfl|rfl<;>(simp only;omega)
 ·have:=ai.nl;rw[Bh];omega
def alZ{g:bu}(ai:iq g):∃m,GP g=some m∧m.Perm (jW g):=by
 have kj:=ai.nl;have eH:=Bh g;obtain⟨m,h1,D,aj⟩:=K8 (ks:=[λx:bW=>x.Hop.bh,λx:bW=>x.Hop.aS]) (l:=jW g) ((M0 ai).imp λ{a b} h=>Nc h) (by omega);refine⟨m,?_,D⟩;unfold GP;refine(TP kB (λj x bM s=>rfl) 2 (λx=>Nat.le_refl _) _ _ _ (by simp;omega)).trans ?_;rw[nil_append];show aB (o4 _ (jW g)) _=_;rw[h1];rfl
def M2{a b:yO}(h:a.Perm b)(Y:pR b):pR a:=⟨λx u=>Y.cost x (h.mem_iff.1 u),λx u=>Y.to x (h.mem_iff.1 u),λx u y ak=>Y.hop x (h.mem_iff.1 u) y (h.mem_iff.1 ak),by rw[h.length_eq];exact Y.len⟩
def mT.same{A:Type}[DecidableEq A]{N:x6 A}{L Ed:List A}(Z:∀a,a∈L↔a∈Ed){T:Int→Prop}{v:Int}{H:List A}(h:mT N L T v H):mT N Ed T v H:=
 ⟨λa aI=>(Z a).1 (h.sub a aI),λa aI=>h.pos a ((Z a).2 aI),h.qu,λK gE=>h.min K λa aI=>(Z a).2 (gE a aI)⟩
def aiU{A:Type}[DecidableEq A]{N:x6 A}{L:List A}{T:Int→Prop}{v:Int}(aK:∀a∈L,0<N.cost a)(ah:∀t,T t→e9 N L v t):∃H,mT N L T v H:=by
 have:∀(n:Nat) (K:List A),(∀a∈K,a∈L)→(∀t,T t→e9 N K v t)→hu N K≤n→∃H,mT N L T v H:=by
  intro n;induction n with
  |zero=>
   intro K h1 D aj;refine⟨K,h1,aK,D,λkQ aV _=>?_⟩;have:0≤hu N kQ:=Rt λa aI=>by have:=aK a (aV a aI);omega
   simp only[Int.ofNat_zero]at aj;omega
  |succ n bX=>
   intro K h1 D aj;by_cases u:∃kQ,(∀a∈kQ,a∈L)∧(∀t,T t→e9 N kQ v t)∧hu N kQ<hu N K
   ·obtain⟨kQ,cZ,c8,h3⟩:=u;exact bX kQ cZ c8 (by omega)
   ·refine⟨K,h1,aK,D,λkQ aV b4=>?_⟩;apply Classical.byContradiction;intro cq;exact u ⟨kQ,aV,b4,by omega⟩
 exact this (hu N L).toNat L (λa aI=>aI) ah (by omega)
def adD{a b:yO}(h:a.Perm b){root:Int}{ts:cN}{Z:Es}{c:Int}(Y:rX a root ts Z c):rX b root ts Z c:=by
 obtain⟨⟨gu,h1,D,aj⟩,aV⟩:=Y;exact⟨⟨gu,h1.same λa=>h.mem_iff,D,aj⟩,aV⟩
def aeu{a8 gu:yO}(dZ:pR a8)(h:∀a∈gu,a∈a8):(gu.length:Int)≤hu fv gu:=(yN λa aI=>dZ.cost a (h a aI)).1
def Ul{a8:yO}(dZ:pR a8){root:Int}{ts:cN}(ah:∀t,t∈ts→e9 fv a8 root t):∃Z c,rX a8 root ts Z c:=by
 obtain⟨gu,h4⟩:=aiU (N:=fv) (L:=a8) (T:=λt=>t∈ts) (λa aI=>by have:=(dZ.cost a aI).1;show 0<a.hM;omega) ah;have h1:=aeu dZ h4.sub;have D:=h4.min a8 (λa aI=>aI) ah;have aj:=(yN dZ.cost).2;have aV:=dZ.len;obtain⟨m,_,c8,h3⟩:=Mq dZ h4 (by omega);exact⟨m,_,⟨gu,h4,rfl,c8⟩,h3⟩
end
section
def qW(v:cN)(a:bW):cN:=if a.Hop.bh∈v then np v a.Hop.aS else v
def l6(H:yO)(v:cN):cN:=H.foldl qW v
def kN(H:yO):Nat→cN→cN
 |0,v=>v
 |n+1,v=>kN H n (l6 H v)
def TQ{v:cN}{a:bW}{x:Int}(h:x∈v):x∈qW v a:=by
 unfold qW;split
 ·exact yW.2 (.inr h)
 ·exact h
def agl{v:cN}{a:bW}(h:v.Pairwise (·<·)):(qW v a).Pairwise (·<·):=by
 unfold qW;split
 ·exact LI h
 ·exact h
def TR(v:cN)(a:bW):(qW v a).length≤v.length+1:=by
 unfold qW;split
 ·exact Hk v _
 ·omega
def Ht:∀{H:yO} {v:cN} {x:Int},x∈v→x∈l6 H v
 |[],_,_,h=>h
 |_::r,_,_,h=>Ht (H:=r) (TQ h)
def H9:∀{H:yO} {v:cN},v.Pairwise (·<·)→(l6 H v).Pairwise (·<·)
 |[],_,h=>h
 |_::r,_,h=>H9 (H:=r) (agl h)
def M3:∀(H:yO) (v:cN),(l6 H v).length≤v.length+H.length
 |[],_=>by simp[l6]
 |a::r,v=>by
  have h1:=M3 r (qW v a);have D:=TR v a;show(l6 r (qW v a)).length≤_;simp;omega
def TS{root:Int}{K:yO}:∀{H:yO} {v:cN},(∀a∈H,a∈K)→(∀x∈v,e9 fv K root x)→∀x∈l6 H v,e9 fv K root x
 |[],_,_,h,x,u=>h x u
 |a::r,v,Z,h,x,u=>by
  refine TS (H:=r) (λb Y=>Z b (by simp[Y])) (λy ak=>?_) x u;unfold qW at ak;split at ak
  ·rename_i bc;rcases yW.1 ak with rfl|ak
   ·exact(h _ bc).trans (e9.one (N:=fv) (Z a (by simp)))
   ·exact h y ak
  ·exact h y ak
def Vh:∀{H:yO} {v V:cN},(∀a∈H,a.Hop.aS∈V)→(∀x∈v,x∈V)→∀x∈l6 H v,x∈V
 |[],_,_,_,h,x,u=>h x u
 |a::r,v,V,Z,h,x,u=>by
  refine Vh (H:=r) (λb Y=>Z b (by simp[Y])) (λy ak=>?_) x u;unfold qW at ak;split at ak
  ·rcases yW.1 ak with rfl|ak
   ·exact Z a (by simp)
   ·exact h y ak
  ·exact h y ak
def Vi:∀{H:yO} {v:cN} {a:bW},a∈H→a.Hop.bh∈v→a.Hop.aS∈l6 H v
 |b::r,v,a,aI,bc=>by
  rcases mem_cons.1 aI with rfl|aI
  ·refine Ht (H:=r) ?_;unfold qW;rw[if_pos bc];exact yW.2 (.inl rfl)
  ·exact Vi (H:=r) aI (TQ bc)
def SF{H:yO}:∀{n:Nat} {v:cN} {x:Int},x∈v→x∈kN H n v
 |0,_,_,h=>h
 |n+1,_,_,h=>SF (n:=n) (Ht h)
def aaX{root:Int}{H:yO}:∀{n:Nat} {v:cN},(∀x∈v,e9 fv H root x)→∀x∈kN H n v,e9 fv H root x
 |0,_,h,x,u=>h x u
 |n+1,_,h,x,u=>aaX (n:=n) (TS (λa aI=>aI) h) x u
def aaY{H:yO}{v:cN}(h:l6 H v=v):∀n,kN H n v=v
 |0=>rfl
 |n+1=>by rw[kN,h,aaY h n]
def aaG{H:yO}{V:cN}(oz:∀a∈H,a.Hop.aS∈V):∀(n:Nat) (v:cN),v.Pairwise (·<·)→(∀x∈v,x∈V)→V.length≤n+v.length→∀a∈H,a.Hop.bh∈kN H n v→a.Hop.aS∈kN H n v
 |0,v,h1,D,aj,a,aI,bc=>by
  simp only[kN]at bc ⊢;apply Classical.byContradiction;intro be;have fH:(a.Hop.aS::v).Nodup:=nodup_cons.2 ⟨be,h1.imp λh=>by omega⟩
  have:=SQ fH (b:=V) λx u=>by
   rcases mem_cons.1 u with rfl|u
   ·exact oz a aI
   ·exact D x u
  simp at this;omega
 |n+1,v,h1,D,aj,a,aI,bc=>by
  by_cases u:∀x∈l6 H v,x∈v
  ·have he:l6 H v=v:=KY (H9 h1) h1 λx=>⟨u x,Ht⟩;rw[aaY he]at bc ⊢;exact u _ (Vi aI bc)
  ·have:∃x∈l6 H v,x∉v:=by
    apply Classical.byContradiction;intro be;exact u λx u=>Classical.byContradiction λh=>be ⟨x,u,h⟩
   obtain⟨x,bF,eu⟩:=this;have fH:(x::v).Nodup:=nodup_cons.2 ⟨eu,h1.imp λh=>by omega⟩
   have:=SQ fH (b:=l6 H v) λy ak=>by
    rcases mem_cons.1 ak with rfl|ak
    ·exact bF
    ·exact Ht ak
   exact aaG oz n (l6 H v) (H9 h1) (Vh oz D) (by simp at this;omega) a aI bc
def SG{H:yO}{V:cN}{root:Int}(aC:root∈V)(oz:∀a∈H,a.Hop.aS∈V){n:Nat}(be:V.length≤n+1){x:Int}:x∈kN H n [root]↔e9 fv H root x:=by
 constructor
 ·exact aaX (λy ak=>by simp at ak;rw[ak];exact .refl _) x
 ·intro h;have ah:=aaG oz n [root] (by simp) (by simpa using aC) (by simpa using be)
  have:∀{y z:Int},e9 fv H y z→y∈kN H n [root]→z∈kN H n [root]:=λ{y z} h=>by
   induction h with
   |refl v=>exact id
   |step a aI _ bX=>exact λak=>bX (ah a aI ak)
  exact this h (SF (by simp))
end
section
def M4{f:Int→Int}:∀(b:cN) (i:Nat),i<b.length→∀x,((b.set i x).map f).sum=(b.map f).sum-f (b.getD i 0)+f x
 |[],_,h,_=>by simp at h
 |y::b,0,_,x=>by simp;omega
 |y::b,i+1,h,x=>by
  have:=M4 (f:=f) b i (by simpa using h) x;simp only[set_cons_succ,map_cons,sum_cons,getD_cons_succ];omega
def MI{f:Int→Int}{m:Int}(h:∀x,0≤f x∧f x≤m):∀b:cN,0≤(b.map f).sum∧(b.map f).sum≤m*b.length
 |[]=>by simp
 |y::b=>by
  have h1:=MI h b;have D:=h y;simp only[map_cons,sum_cons,length_cons,Int.natCast_add,Int.mul_add];omega
def xM{b:cN}{i:Nat}(hi:i<b.length)(x:Int)(v:Nat):(b.set i x).getD v 0=if v=i then x else b.getD v 0:=by
 rw[getD_eq_getElem?_getD,getD_eq_getElem?_getD,List.getElem?_set];by_cases h:v=i
 ·subst h;simp[hi]
 ·rw[if_neg h,if_neg λe=>h e.symm]
abbrev mA:Int:=1099511627776
def tY(x:Int):Int:=if x<mA then 1 else 0
def zI(x:Int):Int:=if x<mA then(if x<0 then 0 else if x<4000000 then x else 4000000)else 5000000
def fin(b:cN):Int:=(b.map tY).sum
def Hu(b:cN):0≤fin b∧fin b≤b.length:=by
 have:=MI (f:=tY) (m:=1) (λx=>by unfold tY;split<;>omega) b;unfold fin;omega
def agm{b:cN}{i:Nat}(hi:i<b.length)(x:Int):fin (b.set i x)=fin b-tY (b.getD i 0)+tY x:=M4 b i hi x
def jt(cs:fI)(aq v:Nat):Int:=(cs.getD aq []).getD v 0
structure zU(V:List Int)(L:List bW)(cs:List (List Int)):Prop where
 nd:V.Nodup
 le:V.length≤24
 len:cs.length=V.length
 row:∀aq,aq<V.length→(cs.getD aq []).length=V.length
 I5:∀a∈L,a.Hop.bh∈V∧a.Hop.aS∈V∧jt cs (V.idxOf a.Hop.bh) (V.idxOf a.Hop.aS)=a.hM∧1≤a.hM∧a.hM≤1000
 hop:∀aq v,aq<V.length→v<V.length→0<jt cs aq v→bW.mk (aQ.mk (V.getD aq 0) (V.getD v 0)) (jt cs aq v)∈L
def TT{V:cN}(be:V.Nodup){aq:Nat}(cF:aq<V.length):V.idxOf (V.getD aq 0)=aq:=by
 rw[getD_eq_getElem?_getD,List.getElem?_eq_getElem cF];exact be.idxOf_getElem aq cF
def yX{V:cN}{x:Int}(u:x∈V):V.getD (V.idxOf x) 0=x:=by
 have h:=List.idxOf_lt_length_of_mem u;rw[getD_eq_getElem?_getD,List.getElem?_eq_getElem h];exact getElem_idxOf h
def zU.Qr{V:cN}{L:yO}{cs:fI}(h:zU V L cs){aq v:Nat}(cF:aq<V.length)(ai:v<V.length)(he:0<jt cs aq v):jt cs aq v≤1000:=(h.I5 _ (h.hop aq v cF ai he)).2.2.2.2
section tab
variable {V:cN}{L:yO}{cs:fI}{ts:cN}
structure r6(V:List Int)(L:List bW)(ts:List Int)(S:Nat)(b:List Int):Prop where
 len:b.length=V.length
 bd:∀v,v<V.length→0≤b.getD v 0∧b.getD v 0≤mA
 ok:∀v,v<V.length→b.getD v 0<mA→b.getD v 0≤48000*S-48000+1000*fin b∧∃H,mV fv L ts.length (λi=>ts.getD i 0) S (V.getD v 0) H∧hu fv H=b.getD v 0
structure xZ(V:List Int)(L:List bW)(cs:List (List Int))(ts:List Int)(rows:List (List Int))(S:Nat)(b:List Int):Prop where
 s:r6 V L ts S b
 one:∀i,i<ts.length→S=2 ^ i→b.getD (V.idxOf (ts.getD i 0)) 0≤0
 hop:∀aq v,aq<V.length→v<V.length→0<jt cs aq v→b.getD aq 0≤jt cs aq v+b.getD v 0
 part:∀P R,0<P→0<R→P &&& R=0→P ||| R=S→∀v,v<V.length→b.getD v 0≤(rows.getD P []).getD v 0+(rows.getD R []).getD v 0
def r6.put{S:Nat}{b:cN}(h:r6 V L ts S b){aq:Nat}(cF:aq<V.length){c:Int}(bA:0≤c)(ah:c<mA)(Y:c≤48000*S-48000+1000*fin b∨c≤48000*S-48000+1000*fin b+1000∧mA≤b.getD aq 0∨∃v,v<V.length∧v≠aq∧b.getD v 0<mA∧c≤b.getD v 0+1000∧c≤b.getD aq 0)
  (aR:∃H,mV fv L ts.length (λi=>ts.getD i 0) S (V.getD aq 0) H∧hu fv H=c):r6 V L ts S (b.set aq c):=by
 have kD:aq<b.length:=by rw[h.len];exact cF
 have nK:=h.bd aq cF;have aop:=agm kD c;have aon:tY c=1:=by unfold tY;rw[if_pos ah]
 have YO:fin b≤fin (b.set aq c):=by
  rw[aop,aon];unfold tY;split<;>omega
 refine⟨by rw[length_set];exact h.len,λv ai=>?_,λv ai B5=>?_⟩
 ·rw[xM kD];split
  ·omega
  ·exact h.bd v ai
 ·rw[xM kD]at B5 ⊢;by_cases e:v=aq
  ·subst e;rw[if_pos rfl];refine⟨?_,aR⟩;rcases Y with Y|⟨Y,bc⟩|⟨w,iS,kZ,aay,axa,axb⟩
   ·omega
   ·have:tY (b.getD v 0)=0:=by unfold tY;rw[if_neg (by omega)]
    omega
   ·by_cases bc:b.getD v 0<mA
    ·have:=(h.ok v ai bc).1;omega
    ·have:tY (b.getD v 0)=0:=by unfold tY;rw[if_neg bc]
     have:=(h.ok w iS aay).1;omega
  ·rw[if_neg e]at B5 ⊢;obtain⟨h1,D⟩:=h.ok v ai B5;exact⟨by omega,D⟩
def xZ.le{rows:fI}{S:Nat}{b:cN}(oz:V.length≤24)(h:xZ V L cs ts rows S b){v:Nat}(ai:v<V.length)(bc:b.getD v 0<mA):b.getD v 0≤48000*S-24000:=by
 have h1:=(h.s.ok v ai bc).1;have D:=(Hu b).2;have aj:=h.s.len;omega
def r6.step{S:Nat}{b:cN}(kR:zU V L cs)(h:r6 V L ts S b){aq v:Nat}(cF:aq<V.length)(ai:v<V.length)(he:0<jt cs aq v)(cq:jt cs aq v+b.getD v 0<b.getD aq 0):r6 V L ts S (b.set aq (jt cs aq v+b.getD v 0)):=by
 have h1:=kR.Qr cF ai he;have D:=h.bd v ai;have aj:=h.bd aq cF;have bc:b.getD v 0<mA:=by omega
 obtain⟨aV,H,b4,dz⟩:=h.ok v ai bc;refine h.put cF (by omega) (by omega) (.inr (.inr ⟨v,ai,λe=>by subst e;omega,bc,by omega,by omega⟩)) ⟨_,mV.hop (N:=fv) _ (kR.hop aq v cF ai he) b4,?_⟩;rw[rj,dz];rfl
def r6.join{rows:fI}{P R S:Nat}{b p r:cN}(oz:V.length≤24)(h:r6 V L ts S b)(iX:xZ V L cs ts rows P p)(cz:xZ V L cs ts rows R r)(bA:P &&& R=0)(ar:P ||| R=S)(Z:P+R=S){v:Nat}(ai:v<V.length)(cq:p.getD v 0+r.getD v 0<b.getD v 0):r6 V L ts S (b.set v (p.getD v 0+r.getD v 0)):=by
 have h1:=iX.s.bd v ai;have D:=cz.s.bd v ai;have aj:=h.bd v ai;have f1:p.getD v 0<mA:=by omega
 have f2:r.getD v 0<mA:=by omega
 obtain⟨_,H,g6,a2⟩:=iX.s.ok v ai f1;obtain⟨_,K,dI,ek⟩:=cz.s.ok v ai f2;have aN:=iX.le oz ai f1;have bw:=cz.le oz ai f2;have bc:=(Hu b).1;refine h.put ai (by omega) (by omega) (.inl (by omega)) ⟨H++K,?_,by rw[aaO,a2,ek]⟩;have:=mV.part (N:=fv) bA g6 dI
 rwa [ar]at this
def pa(b:cN):Int:=(b.map zI).sum
def MJ(b:cN):0≤pa b∧pa b≤5000000*b.length:=MI (λx=>by unfold zI;split;split;omega;split<;>omega;omega) b
def aev{S:Nat}(fs:S≤64){b:cN}(oz:V.length≤24)(h:r6 V L ts S b){aq:Nat}(cF:aq<V.length){c:Int}(bA:0≤c)(cq:c<b.getD aq 0)(dw:r6 V L ts S (b.set aq c)):pa (b.set aq c)<pa b:=by
 have kD:aq<b.length:=by rw[h.len];exact cF
 have h1:=h.bd aq cF;have AA:=(Hu b).2;have avt:=(Hu (b.set aq c)).2;have Js:=dw.len;have ah:=dw.ok aq cF (by rw[xM kD,if_pos rfl];omega);rw[xM kD,if_pos rfl]at ah;have qy:=ah.1;have aP:=h.len;unfold pa;rw[M4 b aq kD];have e1:zI c=c:=by unfold zI;rw[if_pos (by omega),if_neg (by omega),if_pos (by omega)]
 rw[e1];by_cases bc:b.getD aq 0<mA
 ·have D:=(h.ok aq cF bc).1;have e2:zI (b.getD aq 0)=b.getD aq 0:=by unfold zI;rw[if_pos bc,if_neg (by omega),if_pos (by omega)]
  rw[e2];omega
 ·have e2:zI (b.getD aq 0)=5000000:=by unfold zI;rw[if_neg bc]
  rw[e2];omega
structure XS(V:List Int)(L:List bW)(cs:List (List Int))(ts:List Int)(rows:List (List Int))(n:Nat):Prop where
 len:n≤rows.length
 row:∀S,0<S→S<n→xZ V L cs ts rows S (rows.getD S [])
def adE{rows:fI}(kR:zU V L cs)(bU:∀t∈ts,t∈V)(h:XS V L cs ts rows (2 ^ ts.length)){root:Int}(aC:root∈V)(h1:0<ts.length):
  (∀K,(∀a∈K,a∈L)→(∀t,t∈ts→e9 fv K root t)→(rows.getD (2 ^ ts.length-1) []).getD (V.idxOf root) 0≤hu fv K)∧
  ((rows.getD (2 ^ ts.length-1) []).getD (V.idxOf root) 0<mA→∃H,(∀a∈H,a∈L)∧(∀t,t∈ts→e9 fv H root t)∧hu fv H=(rows.getD (2 ^ ts.length-1) []).getD (V.idxOf root) 0):=by
 have qa:2 ^ 1≤2 ^ ts.length:=Nat.pow_le_pow_right (by omega) h1;have b7:∀{x},x∈V→V.idxOf x<V.length:=λu=>List.idxOf_lt_length_of_mem u;constructor
 ·intro K gE ah
  let C:Nat→Int→Int:=λS v=>@ite _ (v∈V) (Classical.propDecidable _) ((rows.getD S []).getD (V.idxOf v) 0) 0
  have mF:∀S {v},v∈V→C S v=(rows.getD S []).getD (V.idxOf v) 0:=λS v ai=>if_pos ai
  have N3:HR fv L ts.length (λi=>ts.getD i 0) C:=by
   refine⟨λa aI=>by have:=(kR.I5 a aI).2.2.2.1;show 0≤a.hM;omega,λi hi=>?_,λS bA fs a aI=>?_,λS P R fs iX cz bA ar v=>?_⟩
   ·have hm:ts.getD i 0∈V:=bU _ (by rw[getD_eq_getElem?_getD,List.getElem?_eq_getElem hi];exact List.getElem_mem hi);rw[mF _ hm];exact(h.row (2 ^ i) (Nat.two_pow_pos i) (Nat.pow_lt_pow_right (by omega) hi)).one i hi rfl
   ·obtain⟨g6,a2,a3,a4,_⟩:=kR.I5 a aI;have hl:=h.row S bA fs;have:=hl.hop _ _ (b7 g6) (b7 a2) (by rw[a3];omega);rw[a3]at this;show C S a.Hop.bh≤a.hM+C S a.Hop.aS;rw[mF _ g6,mF _ a2];exact this
   ·have hl:=h.row S (Nat.lt_of_lt_of_le iX (by rw[←ar];exact Nat.left_le_or)) fs;by_cases ai:v∈V
    ·rw[mF _ ai,mF _ ai,mF _ ai];exact hl.part P R iX cz bA ar _ (b7 ai)
    ·simp only[C];rw[if_neg ai,if_neg ai,if_neg ai];omega
  have:=N3.le K.length K (Nat.le_refl _) gE (2 ^ ts.length-1) (by omega) (by omega) root (H7.2 ah)
  rwa [mF _ aC]at this
 ·intro bc;obtain⟨_,H,D,aj⟩:=(h.row (2 ^ ts.length-1) (by omega) (by omega)).s.ok _ (b7 aC) bc;rw[yX aC]at D;exact⟨H,D.sub,H7.1 D.qu,aj⟩
end tab
end
section
variable {Z:Es}{x:Int}
def agn{gu:yO}(aK:Z.Perm (gu.map (·.Hop))){root:Int}(h:e9 fv gu root x):oP root Z x:=by
 have:∀{y x:Int},e9 fv gu y x→oP root Z y→oP root Z x:=λ{y x} h=>by
  induction h with
  |refl v=>exact id
  |step a aI _ bX=>exact λaC=>bX (oP.step a.Hop (aK.mem_iff.2 (List.mem_map.2 ⟨a,aI,rfl⟩)) aC)
 exact this h .root
variable {g:bu}
def DE(ai:iq g){a:bW}(aI:a∈jW g):a.Hop.bh∈ids g∧a.Hop.aS∈ids g:=by
 obtain⟨k,hk,h⟩:=u1.1 aI;have:=ai.ends k hk;rcases h with rfl|rfl
 ·exact⟨pP.2 this.1,pP.2 this.2⟩
 ·exact⟨pP.2 this.2,pP.2 this.1⟩
def DF(ai:iq g)(u:x∈ids g):1≤x∧x≤99:=by
 obtain⟨r,aC,rfl⟩:=List.mem_map.1 u;exact ai.CN r aC
variable {a8:yO}{ts:cN}
def ago(ai:iq g)(mI:∀a∈a8,a∈jW g){root:Int}(aC:root∈ids g){c:Int}(h:rX a8 root ts Z c):ul (bR.mk root Z):=by
 obtain⟨⟨gu,h4,ah,aK⟩,OI⟩:=h
 have hm:∀h∈Z,∃a∈gu,a.Hop=h:=λh ct=>by
  obtain⟨a,aI,e⟩:=List.mem_map.1 (aK.mem_iff.1 ct);exact⟨a,aI,e⟩
 have aoe:gu.Pairwise λa b=>a.Hop.aS≠b.Hop.aS:=by
  have fH:gu.Pairwise λa b=>a≠b:=h4.nodup;exact fH.imp_of_mem λ{a b} aI Y jH e=>jH (h4.dst aI Y e)
 refine⟨DF ai aC,λh ct=>?_,OI.imp λ{a b} h=>?_,?_,λh ct=>?_,λh ct=>?_⟩
 ·obtain⟨a,aI,rfl⟩:=hm h ct;have:=DE ai (mI a (h4.sub a aI));exact⟨DF ai this.1,DF ai this.2⟩
 ·rw[p7,p7]at h;simp only[gD]at h;simp only[o5,Bool.or_eq_true,Bool.and_eq_true,decide_eq_true_eq];omega
 ·have D:(gu.map (·.Hop)).Pairwise λa b=>a.aS≠b.aS:=pairwise_map.2 aoe;exact(aK.pairwise_iff λ{a b} h=>Ne.symm h).2 D
 ·obtain⟨a,aI,rfl⟩:=hm h ct;exact h4.root aI
 ·obtain⟨a,aI,rfl⟩:=hm h ct;exact agn aK (h4.Kx aI)
def aci{root:Int}{c:Int}(h:rX a8 root ts Z c){t:Int}(bU:t∈ts):t=root∨∃x∈Z,x.aS=t:=by
 obtain⟨⟨gu,h4,ah,aK⟩,OI⟩:=h;rcases T7 (h4.qu t bU)with h|⟨e,he,h1,_⟩
 ·exact .inl h.symm
 ·exact .inr ⟨e.Hop,aK.mem_iff.2 (List.mem_map.2 ⟨e,he,rfl⟩),h1⟩
def vX{A:Type}[DecidableEq A]{a b:List A}(h:a.Nodup)(Z:∀x∈a,x∈b):a.length≤b.length:=by
 induction a generalizing b with
 |nil=>simp
 |cons x a bX=>
  rw[nodup_cons]at h;have u:=Z x (by simp);have:=bX (b:=b.erase x) h.2 λy ak=>(List.mem_erase_of_ne (λe=>h.1 (by rw[←e];exact ak))).2 (Z y (by simp[ak]));rw[length_erase_of_mem u]at this;have:=length_pos_of_mem u;simp only[length_cons];omega
def TU(dZ:pR a8){root:Int}{c:Int}(h:rX a8 root ts Z c):Z.length≤1000:=by
 obtain⟨⟨gu,h4,ah,aK⟩,OI⟩:=h;have h1:gu.length≤a8.length:=vX h4.nodup h4.sub;have D:=aK.length_eq;have aj:=dZ.len;rw[length_map]at D;omega
end
section
def aew{a b:Nat}(aI:a<2 ^ 60)(Y:b<2 ^ 60):kf .xor .i64 (a:Int) (b:Int)=((a ^^^ b:Nat):Int):=by
 have h1:(a ^^^ b)<2 ^ 60:=Nat.xor_lt_two_pow aI Y;show bE (((BitVec.ofInt 64 (a:Int) ^^^ BitVec.ofInt 64 (b:Int)).toNat:Nat):Int)=_;rw[BitVec.ofInt_natCast,BitVec.ofInt_natCast,BitVec.toNat_xor,BitVec.toNat_ofNat,BitVec.toNat_ofNat,Nat.mod_eq_of_lt (by omega),Nat.mod_eq_of_lt (by omega)];exact g4 (by omega) (by omega)
variable {P S:Nat}
def aex(h:P &&& S=P):P &&& (S ^^^ P)=0∧P ||| (S ^^^ P)=S:=by
 have Y:∀i,(P.testBit i&&S.testBit i)=P.testBit i:=λi=>by rw[←Nat.testBit_and,h]
 constructor
 ·apply Nat.eq_of_testBit_eq;intro i;have:=Y i;rw[Nat.testBit_and,Nat.testBit_xor,Nat.zero_testBit]
  revert this
  cases P.testBit i<;>cases S.testBit i<;>simp
 ·apply Nat.eq_of_testBit_eq;intro i;have:=Y i;rw[Nat.testBit_or,Nat.testBit_xor]
  revert this
  cases P.testBit i<;>cases S.testBit i<;>simp
def aey{R:Nat}(bA:P &&& R=0)(h:P ||| R=S):R=S ^^^ P∧P &&& S=P:=by
 have hz:∀i,(P.testBit i&&R.testBit i)=false:=λi=>by rw[←Nat.testBit_and,bA,Nat.zero_testBit]
 have ar:∀i,(P.testBit i||R.testBit i)=S.testBit i:=λi=>by rw[←Nat.testBit_or,h]
 constructor
 ·apply Nat.eq_of_testBit_eq;intro i;have h1:=hz i;rw[Nat.testBit_xor,←ar i]
  revert h1
  cases P.testBit i<;>cases R.testBit i<;>simp
 ·apply Nat.eq_of_testBit_eq;intro i;rw[Nat.testBit_and,←ar i];cases P.testBit i<;>simp
def aiW{R:Nat}(iX:P<2 ^ 60)(cz:R<2 ^ 60)(h:P &&& R=0):P+R=P ||| R:=by
 have h1:=BitVec.add_eq_or_of_and_eq_zero (BitVec.ofNat 64 P) (BitVec.ofNat 64 R) (by
  apply BitVec.eq_of_toNat_eq;rw[BitVec.toNat_and,BitVec.toNat_ofNat,BitVec.toNat_ofNat,Nat.mod_eq_of_lt (by omega),Nat.mod_eq_of_lt (by omega),h];rfl)
 have D:=congrArg BitVec.toNat h1;have aj:(P ||| R)<2 ^ 60:=Nat.or_lt_two_pow iX cz;rw[BitVec.toNat_add,BitVec.toNat_or,BitVec.toNat_ofNat,BitVec.toNat_ofNat,Nat.mod_eq_of_lt (a:=P) (by omega),Nat.mod_eq_of_lt (a:=R) (by omega),Nat.mod_eq_of_lt (by omega)]at D;exact D
def Mb{R:Nat}(bA:P &&& R=0)(h:P ||| R=S)(iX:0<P):R<S:=y1 (by rw[Nat.and_comm];exact bA) (by rw[Nat.or_comm];exact h) iX
variable {i:Nat}{α:Type}{l:List α}
def lH(d:α)(h:i<l.length):b2 l (i:Int)=some (l.getD i d):=by
 apply eM;rw[getD_eq_getElem?_getD,List.getElem?_eq_getElem h];rfl
def qG(d:α)(hi:i<l.length)(x:α)(v:Nat):(l.set i x).getD v d=if v=i then x else l.getD v d:=by
 rw[getD_eq_getElem?_getD,getD_eq_getElem?_getD,List.getElem?_set];by_cases h:v=i
 ·subst h;simp[hi]
 ·rw[if_neg h,if_neg λe=>h e.symm]
def aez(d:α)(hi:i<l.length):l.set i (l.getD i d)=l:=by
 rw[getD_eq_getElem?_getD,List.getElem?_eq_getElem hi];exact List.set_getElem_self hi
section tab
variable {V:cN}{L:yO}{cs:fI}{ts:cN}
def xZ.congr{rows VS:fI}{S:Nat}{b:cN}(h:xZ V L cs ts rows S b)(he:∀P,P<S→VS.getD P []=rows.getD P []):xZ V L cs ts VS S b:=by
 refine⟨h.s,h.one,h.hop,λP R iX cz bA ar v ai=>?_⟩;have h1:=y1 bA ar cz;have D:=Mb bA ar iX;rw[he P h1,he R D];exact h.part P R iX cz bA ar v ai
structure Way(V:List Int)(L:List bW)(ts:List Int)(rows:List (List Int))(S:Nat)(j:Nat)(p:Nat→Nat→Prop)(b:List Int):Prop where
 len:b.length=V.length
 z:S=0→∀v,v<V.length→b.getD v 0=0
 s:0<S→r6 V L ts S b
 one:∀i,i<j→i<ts.length→S=2 ^ i→b.getD (V.idxOf (ts.getD i 0)) 0≤0
 part:∀P v,p P v→0<P→P<S→P &&& S=P→v<V.length→b.getD v 0≤(rows.getD P []).getD v 0+(rows.getD (S ^^^ P) []).getD v 0
def Way.down{rows:fI}{S j:Nat}{p:Nat→Nat→Prop}{b:cN}(h:Way V L ts rows S j p b)(fs:0<S){aq:Nat}{c:Int}(cF:aq<V.length)(hle:c≤b.getD aq 0)(cz:r6 V L ts S (b.set aq c)):Way V L ts rows S j p (b.set aq c):=by
 have kD:aq<b.length:=by rw[h.len];exact cF
 have Jt:∀v,(b.set aq c).getD v 0≤b.getD v 0:=λv=>by
  rw[xM kD];split
  ·rename_i e;subst e;exact hle
  ·exact Int.le_refl _
 exact⟨cz.len,λbA=>by omega,λ_=>cz,λi h1 D aj=>Int.le_trans (Jt _) (h.one i h1 D aj),λP v h1 D aj aV b4=>Int.le_trans (Jt _) (h.part P v h1 D aj aV b4)⟩
def aeA(kR:zU V L cs)(bU:∀t∈ts,t∈V)(hk:ts.length≤6){root:Int}(aC:root∈V):
  Ok (Gw cs (V.idxOf root:Int) (ts.map λx=>(V.idxOf x:Int))) (λc=>(ts=[]→c=0)∧(0<ts.length→(∀K,(∀a∈K,a∈L)→(∀t,t∈ts→e9 fv K root t)→c≤hu fv K)∧(c<mA→∃H,(∀a∈H,a∈L)∧(∀t,t∈ts→e9 fv H root t)∧hu fv H=c))):=by
 have anx:mA=1099511627776:=rfl;have iQ:=kR.len;have oz:=kR.le;have PL:0<V.length:=length_pos_of_mem aC;have b7:∀{x},x∈V→V.idxOf x<V.length:=λu=>List.idxOf_lt_length_of_mem u;have ao1:2 ^ ts.length≤64:=Nat.le_trans (Nat.pow_le_pow_right (by omega) hk) (by decide);have al0:1≤2 ^ ts.length:=Nat.one_le_two_pow;generalize m3:2 ^ ts.length=N at ao1 al0
 have sh:∀i:Nat,i≤6→IntKind.wrap .i64 ((1:Int)*2 ^ min (IntKind.wrap .u64 ((i:Nat):Int)).toNat 64)=((2 ^ i:Nat):Int):=λi hi=>by
  have aK:2 ^ i≤2 ^ 6:=Nat.pow_le_pow_right (by omega) hi;rw[RG (by omega) (by omega),Int.toNat_natCast,Nat.min_eq_left (by omega),Int.one_mul];have e:((2:Int) ^ i)=((2 ^ i:Nat):Int):=by simp
  rw[e];generalize 2 ^ i=z at aK ⊢;exact g4 (by omega) (by omega)
 unfold Gw;rw[length_map,sh _ hk,m3,iQ];refine Ok.hU (by rw[RG (by omega) (by omega)];simp) (Ok.hU (by simp;omega) (Ok.hU (by simp;omega) ?_));have jx:(List.replicate ((N:Nat):Int).toNat []:fI).length=N:=by simp
 rw[jx];refine axP (λi (m:fI)=>m.length=N∧(∀S:Nat,0<S→(S:Int)<i→xZ V L cs ts m S (m.getD S []))∧((0:Int)<i→(m.getD 0 []).length=V.length∧∀v,v<V.length→(m.getD 0 []).getD v 0=0)) 0 (N:Int) ?_ ?_ _ 0 _ (by simp) (by omega) (by omega) ⟨jx,λS h1 D=>by omega,λh=>by omega⟩
 ·
  intro i m bM Cx YR fZ fu;obtain⟨FC,tE,yH⟩:=fZ;obtain⟨S,rfl⟩:=Int.eq_ofNat_of_zero_le Cx;have avm:S<N:=by omega
  have sr:S<m.length:=by omega
  have anO:∀b:cN,S<(m.set S b).length:=λb=>by rw[length_set];exact sr
  have Ac:∀b:cN,b2 (m.set S b) (S:Int)=some b:=λb=>by rw[lH [] (anO b),qG [] sr,if_pos rfl]
  have Yn:∀(b:cN) (P:Nat),P<S→b2 (m.set S b) (P:Int)=some (m.getD P []):=λb P iX=>by rw[lH [] (by rw[length_set];omega),qG [] sr,if_neg (by omega)]
  have G0:∀b aX:cN,List.set (m.set S b) S aX=m.set S aX:=λb aX=>List.set_set ..
  have avG:∀P:Nat,P<S→(m.getD P []).length=V.length:=λP iX=>by
   rcases Nat.eq_zero_or_pos P with bA|bA
   ·subst bA;exact(yH (by omega)).1
   ·exact(tE P bA (by omega)).s.len
  refine Ok.hU (by simp;omega) ?_;rw[lH [] sr,bC,Int.toNat_natCast,Int.toNat_natCast,Ac,bC,length_replicate];refine Ok.hU (by simp;omega) ?_;refine axP (λj (m2:fI)=>∃b:cN,m2=m.set S b∧b.length=V.length∧∀v:Nat,(v:Int)<j→b.getD v 0=if S=0 then 0 else mA) 0 (V.length:Int) ?_ ?_ _ 0 _ (by simp) (by omega) (by omega) ⟨_,rfl,by simp,λv ai=>by omega⟩
  ·rintro j m2 gX Cy vJ ⟨b,rfl,w6,Y⟩ rA;obtain⟨aq,rfl⟩:=Int.eq_ofNat_of_zero_le Cy;have kD:aq<b.length:=by omega
   refine axK (λo6=>∃b:cN,o6=m.set S b∧b.length=V.length∧∀v:Nat,(v:Int)<(aq:Int)+1→b.getD v 0=if S=0 then 0 else mA) (λo6 aj=>rA o6 aj) λJ iW=>?_;rw[Ac,bC,lH 0 kD,bC,Int.toNat_natCast,G0]
   have hj:∀(aX:cN) (x:Int),aX.length=V.length→(∀v:Nat,v<aq→aX.getD v 0=b.getD v 0)→x=(if S=0 then 0 else mA)→∀v:Nat,(v:Int)<(aq:Int)+1→(aX.set aq x).getD v 0=if S=0 then 0 else mA:=λaX x h1 D u v ai=>by
    rw[xM (by omega)];split
    ·exact u
    ·rw[D v (by omega)];exact Y v (by omega)
   refine axw (λah=>?_) λah=>?_
   ·have Fq:S=0:=by have:=of_decide_eq_true ah;omega
    rw[Ac,bC,lH 0 (by rw[length_set];exact kD),bC,G0];exact iW _ ⟨_,rfl,by simpa using w6,hj _ 0 (by simpa using w6) (λv ai=>by rw[xM kD,if_neg (by omega)]) (by rw[if_pos Fq])⟩
   ·have Fq:¬S=0:=by have:=of_decide_eq_false ah;omega
    exact iW _ ⟨_,rfl,by simpa using w6,hj b _ w6 (λ_ _=>rfl) (by rw[if_neg Fq])⟩
  ·rintro j m2 Cy vJ ⟨b,rfl,w6,Y⟩;have aY:=vJ (by omega);subst aY;have vE:∀v,v<V.length→b.getD v 0=if S=0 then 0 else mA:=λv ai=>Y v (by omega)
   have am8:(ts.map λx=>(V.idxOf x:Int)).length=ts.length:=length_map ..;refine axF (L:=ts.map λx=>(V.idxOf x:Int)) (λp (C4:fI)=>∃b,C4=m.set S b∧Way V L ts m S p.length (λ_ _=>False) b) ?_ _ ⟨b,rfl,w6,λbA v ai=>by rw[vE v ai,if_pos bA],λbA=>⟨w6,λv ai=>by rw[vE v ai,if_neg (by omega)];omega,λv ai cq=>by rw[vE v ai,if_neg (by omega)]at cq;omega⟩,λi hi=>by simp at hi,λP v aK=>aK.elim⟩ ?_
   ·rintro p x r C4 jc fQ ⟨b,rfl,fD⟩ Fs;have u:(ts.map λx=>(V.idxOf x:Int))[p.length]?=some x:=by rw[fQ];simp
    rw[List.getElem?_map]at u;obtain⟨t,PY,rfl⟩:=Option.map_eq_some_iff.1 u;have ao2:=(List.getElem?_eq_some_iff.1 PY).1;have Ze:=bU t (List.mem_of_getElem? PY);have PZ:ts.getD p.length 0=t:=by rw[getD_eq_getElem?_getD,PY];rfl
    have cF:=b7 Ze;refine axK (λGr=>∃b,Gr=m.set S b∧Way V L ts m S (p.length+1) (λ_ _=>False) b) (λGr h=>Fs Gr (by simpa using h)) λJ iW=>?_;refine Ok.hU (by rw[RG (by omega) (by omega)];simp) ?_;rw[sh p.length (by omega)];refine axw (λah=>?_) λah=>?_
    ·have Jn:S=2 ^ p.length:=by have:=of_decide_eq_true ah;omega
     have fs:0<S:=by rw[Jn];exact Nat.two_pow_pos _
     rw[Ac,bC,lH 0 (by rw[fD.len];exact cF),bC,Int.toNat_natCast,G0];have bc:=(Hu b).1;have aR:=mV.one (N:=fv) (L:=L) (k:=ts.length) (ts:=λi=>ts.getD i 0) p.length ao2;simp only[PZ]at aR;rw[←Jn]at aR;have cz:=(fD.s fs).put cF (Int.le_refl 0) (by decide) (.inl (by omega)) ⟨[],by rw[yX Ze];exact aR,rfl⟩;have st:=fD.down fs cF ((fD.s fs).bd _ cF).1 cz;refine iW _ ⟨_,rfl,st.len,st.z,st.s,λi hi h1 D=>?_,st.part⟩;by_cases n3:i=p.length
     ·subst n3;rw[PZ,xM (by rw[fD.len];exact cF),if_pos rfl];exact Int.le_refl _
     ·exact st.one i (by omega) h1 D
    ·have Jn:¬S=2 ^ p.length:=by have:=of_decide_eq_false ah;omega
     refine iW _ ⟨b,rfl,fD.len,fD.z,fD.s,λi hi h1 D=>?_,fD.part⟩;by_cases n3:i=p.length
     ·subst n3;exact absurd D Jn
     ·exact fD.one i (by omega) h1 D
   ·rintro C4 ⟨b,rfl,fD⟩;rw[am8]at fD;refine axH (λaf:Int×fI=>∃(v:Nat) (b:cN),af=((v:Int),m.set S b)∧v≤V.length∧Way V L ts m S ts.length (λ_ w=>w<v) b) (λaf=>V.length-af.1.toNat) ⟨0,b,rfl,Nat.zero_le _,fD.len,fD.z,fD.s,fD.one,λP v h=>by omega⟩ (by simp only;omega) ?_;rintro⟨g2,av1⟩ mb ⟨v,b,lV,avI,fD⟩ Pf;simp only[Prod.mk.injEq]at lV;obtain⟨rfl,rfl⟩:=lV;refine axw (λah=>?_) λah=>?_
    ·simp only[Bool.and_eq_true,decide_eq_true_eq]at ah;have fs:0<S:=by omega
     have ai:v<V.length:=by omega
     have FH:∀P:Nat,0<P→P≤S→kf .and .i64 (bE ((P:Int)-1)) (S:Int)=(((P-1) &&& S:Nat):Int):=λP h1 D=>by
      rw[g4 (by omega) (by omega),show((P:Int)-1)=((P-1:Nat):Int)by omega,Lw (by omega) (by omega)]
     rw[FH S fs (Nat.le_refl _)];refine axH (λaf:Int×fI=>∃(P:Nat) (b:cN),af=((P:Int),m.set S b)∧P &&& S=P∧P<S∧Way V L ts m S ts.length (λQ w=>w<v∨w=v∧P<Q) b) (λaf=>af.1.toNat) ⟨(S-1) &&& S,b,rfl,K7 (a:=S-1) (S:=S) 0,Nat.lt_of_le_of_lt Nat.and_le_left (by omega),fD.len,fD.z,fD.s,fD.one,λQ w h h1 D aj aV=>?_⟩ (by simp only[Int.toNat_natCast];have:(S-1) &&& S≤S-1:=Nat.and_le_left;omega) ?_
     ·rcases h with h|⟨_,h⟩
      ·exact fD.part Q w h h1 D aj aV
      ·have:=Lx S S Q (Nat.and_self _) aj D;omega
     ·rintro⟨cM,Zy⟩ pq ⟨P,b,lV,Jl,anM,fD⟩ Pg;simp only[Prod.mk.injEq]at lV;obtain⟨rfl,rfl⟩:=lV;refine axw (λn2=>?_) λn2=>?_
      ·have iX:0<P:=by have:=of_decide_eq_true n2;omega
       obtain⟨HA,BK⟩:=aex Jl;have N1:S ^^^ P<S:=Mb HA BK iX;have cz:0<S ^^^ P:=by
        rcases Nat.eq_zero_or_pos (S ^^^ P)with h|h
        ·rw[h]at BK;simp at BK;omega
        ·exact h
       have O4:=tE P iX (by omega);have O5:=tE (S ^^^ P) cz (by omega);have Yb:P+(S ^^^ P)=S:=by rw[aiW (by omega) (by omega) HA,BK]
       have P7:v<b.length:=by rw[fD.len];exact ai
       have auu:=O4.s.bd v ai;have auv:=O5.s.bd v ai;have fc:=(fD.s fs).bd v ai;rw[Ac,bC,lH 0 P7,bC,Yn b P anM,bC,lH 0 (by rw[O4.s.len];exact ai),bC,aew (by omega) (by omega),Yn b _ N1,bC,lH 0 (by rw[O5.s.len];exact ai),bC,Int.toNat_natCast,G0,FH P iX (by omega),g4 (by omega) (by omega)];have YW:(P-1) &&& S≤P-1:=Nat.and_le_left
       have key:∀aX,Way V L ts m S ts.length (λQ w=>w<v∨w=v∧P<Q) aX→aX.getD v 0≤(m.getD P []).getD v 0+(m.getD (S ^^^ P) []).getD v 0→Ok (pq (((((P-1) &&& S:Nat)):Int),m.set S aX)) (λc=>(ts=[]→c=0)∧(0<ts.length→(∀K,(∀a∈K,a∈L)→(∀t,t∈ts→e9 fv K root t)→c≤hu fv K)∧(c<mA→∃H,(∀a∈H,a∈L)∧(∀t,t∈ts→e9 fv H root t)∧hu fv H=c))):=λaX vD hle=>by
        refine Pg _ ⟨(P-1) &&& S,aX,rfl,K7 (a:=P-1) (S:=S) 0,by omega,vD.len,vD.z,vD.s,vD.one,λQ w h h1 D aj aV=>?_⟩ (by simp only[Int.toNat_natCast];omega);rcases h with h|⟨rfl,h⟩
        ·exact vD.part Q w (.inl h) h1 D aj aV
        ·by_cases anJ:P<Q
         ·exact vD.part Q w (.inr ⟨rfl,anJ⟩) h1 D aj aV
         ·have anN:Q=P:=by
           rcases Nat.lt_or_ge Q P with b4|b4
           ·have:=Lx P S Q Jl aj b4;omega
           ·omega
          subst anN;exact hle
       split
       ·rename_i cq;have Fm:=(fD.s fs).join oz O4 O5 HA BK Yb ai cq;exact key _ (fD.down fs ai (by omega) Fm) (by rw[xM P7,if_pos rfl];exact Int.le_refl _)
       ·rename_i cq;rw[aez 0 P7];exact key _ fD (by omega)
      ·have iX:P=0:=by have:=of_decide_eq_false n2;omega
       subst iX;rw[g4 (by omega) (by omega)];refine Pf _ ⟨v+1,b,by simp,ai,fD.len,fD.z,fD.s,fD.one,λQ w h h1 D aj aV=>fD.part Q w ?_ h1 D aj aV⟩ (by simp only;omega);rcases Nat.lt_or_eq_of_le (Nat.le_of_lt_succ h)with h|h
       ·exact .inl h
       ·exact .inr ⟨h,h1⟩
    ·
     have k5:Way V L ts m S ts.length (λ_ _=>True) b:=by
      refine⟨fD.len,fD.z,fD.s,fD.one,λQ w _ h1 D aj aV=>fD.part Q w ?_ h1 D aj aV⟩;simp only[Bool.and_eq_false_iff,decide_eq_false_iff_not]at ah;omega
     refine axH (λaf:Bool×fI=>∃b:cN,af.2=m.set S b∧Way V L ts m S ts.length (λ_ _=>True) b∧(S=0→af.1=false)∧(af.1=false→0<S→∀aq w,aq<V.length→w<V.length→0<jt cs aq w→b.getD aq 0≤jt cs aq w+b.getD w 0)) (λaf=>2*(pa (af.2.getD S [])).toNat+(bif af.1 then 1 else 0)) ⟨b,rfl,k5,λh=>by simp[h],λh bA=>by simp at h;omega⟩ ?_ ?_
     ·have h1:=(MJ b).2;have D:=k5.len;simp only;rw[qG [] sr,if_pos rfl];have:(bif decide ((0:Int)<(S:Int))then 1 else 0)≤1:=by cases decide ((0:Int)<(S:Int))<;>simp
      omega
     rintro⟨ou,av2⟩ p2 ⟨b,lV,fD,jB,XT⟩ Ph;simp only at lV jB XT;subst lV;cases ou with
     |false=>
      refine fu _ ⟨by rw[length_set];exact FC,λEh h1 D=>?_,λ_=>?_⟩
      ·by_cases Fp:Eh=S
       ·subst Fp;rw[qG [] sr,if_pos rfl];refine⟨fD.s h1,λi hi he=>fD.one i hi hi he,XT rfl h1,λP R iX cz bA ar w aA=>?_⟩;obtain⟨e1,e2⟩:=aey bA ar;have anL:=y1 bA ar cz;have YC:=Mb bA ar iX;rw[qG [] sr,qG [] sr,if_neg (by omega),if_neg (by omega),e1];exact fD.part P w trivial iX anL e2 aA
       ·rw[qG [] sr,if_neg Fp];exact(tE Eh h1 (by omega)).congr λP iX=>by rw[qG [] sr,if_neg (by omega)]
      ·rw[qG [] sr];split
       ·rename_i bA;exact⟨fD.len,fD.z bA.symm⟩
       ·exact yH (by omega)
     |true=>
      have fs:0<S:=by
       rcases Nat.eq_zero_or_pos S with h|h
       ·exact absurd (jB h) (by simp)
       ·exact h
      refine axF (L:=cs) (λp (af:Bool×fI)=>∃aX:cN,af.2=m.set S aX∧Way V L ts m S ts.length (λ_ _=>True) aX∧pa aX≤pa b∧(af.1=true→pa aX<pa b)∧(af.1=false→aX=b∧∀aq,aq<p.length→∀w,w<V.length→0<jt cs aq w→b.getD aq 0≤jt cs aq w+b.getD w 0)) ?_ _ ⟨b,rfl,fD,Int.le_refl _,λh=>(by cases h),λ_=>⟨rfl,λaq cF=>by simp at cF⟩⟩ ?_
      ·rintro p jN r ⟨ou,ap1⟩ BV fQ ⟨dI,lV,ys,su,vF,tw⟩ anQ;simp only at lV su vF tw;subst lV;have yF:p.length<V.length:=by have:=congrArg List.length fQ;simp at this;omega
       have YK:cs.getD p.length []=jN:=by rw[fQ,getD_eq_getElem?_getD];simp
       have Yy:jN.length=V.length:=by rw[←YK];exact kR.row _ yF
       refine axF (L:=cs) (λq (af:Bool×fI)=>∃aX:cN,af.2=m.set S aX∧Way V L ts m S ts.length (λ_ _=>True) aX∧pa aX≤pa b∧(af.1=true→pa aX<pa b)∧(af.1=false→aX=b∧(∀aq,aq<p.length→∀w,w<V.length→0<jt cs aq w→b.getD aq 0≤jt cs aq w+b.getD w 0)∧∀w,w<q.length→0<jt cs p.length w→b.getD p.length 0≤jt cs p.length w+b.getD w 0)) ?_ _ ⟨dI,rfl,ys,su,vF,λh=>⟨(tw h).1,(tw h).2,λw aA=>by simp at aA⟩⟩ ?_
       ·rintro q uw hW ⟨ou,ap0⟩ L6 anG ⟨ek,lV,st,su,vF,tw⟩ anR;simp only at lV su vF tw;subst lV;have AI:q.length<V.length:=by have:=congrArg List.length anG;simp at this;omega
        have Pr:jN.getD q.length 0=jt cs p.length q.length:=by rw[←YK];rfl
        have Y6:p.length<ek.length:=by rw[st.len];exact yF
        have Y7:q.length<ek.length:=by rw[st.len];exact AI
        have Fo:=st.s fs;have auD:=Fo.bd _ yF;have auE:=Fo.bd _ AI;refine axK (λaf:Bool×fI=>∃aX:cN,af.2=m.set S aX∧Way V L ts m S ts.length (λ_ _=>True) aX∧pa aX≤pa b∧(af.1=true→pa aX<pa b)∧(af.1=false→aX=b∧(∀aq,aq<p.length→∀w,w<V.length→0<jt cs aq w→b.getD aq 0≤jt cs aq w+b.getD w 0)∧∀w,w<q.length+1→0<jt cs p.length w→b.getD p.length 0≤jt cs p.length w+b.getD w 0)) (λaf h=>anR af (by simpa using h)) λJ iW=>?_;refine axK (λc=>c=decide (0<jt cs p.length q.length∧jt cs p.length q.length+ek.getD q.length 0<ek.getD p.length 0)) (λc ah=>?_) λk0 sq=>?_
        ·subst ah;refine axw (λh=>?_) λh=>?_
         ·obtain⟨h1,D⟩:=of_decide_eq_true h;have aj:=kR.Qr yF AI h1;rw[Ac,bC,lH 0 (by rw[Yy];exact AI),bC,lH 0 Y7,bC,lH 0 Y6,bC,Int.toNat_natCast,G0,Pr,g4 (by omega) (by omega)];have Fm:=Fo.step kR yF AI h1 D;have YH:=aev (by omega) oz Fo yF (by omega) D Fm;exact iW _ ⟨_,rfl,st.down fs yF (by omega) Fm,by omega,λ_=>(by omega),λh=>(by cases h)⟩
         ·have h:=of_decide_eq_false h;refine iW _ ⟨ek,rfl,st,su,vF,λbc=>?_⟩;obtain⟨f1,f2,f3⟩:=tw bc;refine⟨f1,f2,λw aA tD=>?_⟩;by_cases apu:w=q.length
          ·subst apu;rw[f1]at h;omega
          ·exact f3 w (by omega) tD
        ·rw[lH 0 (by rw[Yy];exact AI),bC,Pr];refine axw (λh=>?_) λh=>?_
         ·have h:=of_decide_eq_true h;have aj:=kR.Qr yF AI h;rw[Ac,bC,lH 0 Y7,bC,lH 0 Y6,bC,g4 (by omega) (by omega)];exact sq _ (by simp[h])
         ·have h:=of_decide_eq_false h;exact sq _ (by simp[h])
       ·rintro⟨ou,ap0⟩ ⟨ek,lV,st,su,vF,tw⟩;refine anQ _ ⟨ek,lV,st,su,vF,λbc=>?_⟩;obtain⟨f1,f2,f3⟩:=tw bc;refine⟨f1,λaq cF w aA tD=>?_⟩;by_cases apk:aq=p.length
        ·subst apk;exact f3 w (by rw[iQ];exact aA) tD
        ·exact f2 aq (by simp at cF;omega) w aA tD
      ·rintro⟨ou,ap1⟩ ⟨dI,lV,ys,su,vF,tw⟩;simp only at lV su vF tw;subst lV;have iG:=(MJ b).1;have hW:=(MJ dI).1;refine Ph _ ⟨dI,rfl,ys,λh=>by omega,λbc _ aq w cF aA tD=>?_⟩ ?_
       ·obtain⟨f1,f2⟩:=tw bc;rw[f1];exact f2 aq (by rw[iQ];exact cF) w aA tD
       ·simp only;rw[qG [] sr,qG [] sr,if_pos rfl,if_pos rfl];cases ou with
        |true=>have:=vF rfl;simp only[cond_true];omega
        |false=>have:=(tw rfl).1;subst this;simp
 ·rintro i m Cx YR ⟨FC,tE,yH⟩;have hi:=YR (by omega);subst hi;have aA:bE ((m.length:Int)-1)=((N-1:Nat):Int):=by rw[g4 (by omega) (by omega)];omega
  have uV:=yH (by omega);have eH:(m.getD (N-1) []).length=V.length:=by
   rcases Nat.eq_zero_or_pos (N-1)with h|h
   ·rw[h];exact uV.1
   ·exact(tE (N-1) h (by omega)).s.len
  rw[aA,lH [] (by omega),bC,lH 0 (by rw[eH];exact b7 aC),bC];refine Ok.s ⟨λbA=>?_,λh1=>?_⟩
  ·subst bA;have anI:N=1:=by rw[←m3];rfl
   subst anI;exact uV.2 _ (b7 aC)
  ·have aR:XS V L cs ts m (2 ^ ts.length):=⟨by omega,λS D aj=>tE S D (by omega)⟩;have:=adE kR bU aR aC h1;rw[m3]at this;exact this
end tab
end
section
def MK{m:fI}{n aq v:Nat}{c:Int}(hm:m.length=n)(aC:∀aq,aq<n→(m.getD aq []).length=n)(cF:aq<n)(ai:v<n)(KX eP:Nat):jt (m.set aq ((m.getD aq []).set v c)) KX eP=if KX=aq∧eP=v then c else jt m KX eP:=by
 unfold jt;rw[qG [] (by omega)];by_cases h:KX=aq
 ·subst h;rw[if_pos rfl,qG 0 (by rw[aC _ cF];exact ai)];by_cases D:eP=v
  ·rw[if_pos D,if_pos ⟨rfl,D⟩]
  ·rw[if_neg D,if_neg λh=>D h.2]
 ·rw[if_neg h,if_neg λD=>h D.1]
def Mc{m:fI}{n aq v:Nat}{c:Int}(hm:m.length=n)(aC:∀aq,aq<n→(m.getD aq []).length=n)(cF:aq<n):∀w,w<n→((m.set aq ((m.getD aq []).set v c)).getD w []).length=n:=λw aA=>by
 rw[qG [] (by omega)];split
 ·rw[length_set];exact aC aq cF
 ·exact aC w aA
structure aiX(g:bu)(r:List (List Int)×jr 100):Prop where
 ew:zU (ids g) (jW g) r.1
 at_:∀x∈ids g,b2 r.2.l x=some ((ids g).idxOf x:Int)
def Bv{V:cN}{x y:Int}(u:x∈V)(ak:y∈V)(h:V.idxOf x=V.idxOf y):x=y:=by
 rw[←yX u,←yX ak,h]
def adF{g:bu}(ai:iq g)(bA:0<g.cn.length):Ok (GG g) (aiX g):=by
 have FG:=ai.A6;have vI:(ids g).length=g.cn.length:=by simp[ids]
 have fH:(ids g).Nodup:=(aiQ ai).imp λh=>Int.ne_of_lt h;unfold GG;refine axF (L:=g.cn) (λ(p:HC) (m:jr 100)=>∀(i:Nat) (x:Int),(p.map (·.eR))[i]?=some x→m.l[x.toNat]?=some (i:Int)) ?_ _ (λi x h=>by simp at h) ?_
 ·rintro p x r m bM fQ fZ fu;have u:x∈g.cn:=by rw[fQ];simp
  have Jr:=ai.CN x u;have FC:=m.h;have sv:b2 m.l x.eR=some (m.l.getD x.eR.toNat 0):=by
   have h:=lH 0 (l:=m.l) (i:=x.eR.toNat) (by omega)
   rwa [Int.toNat_of_nonneg (by omega)]at h
  rw[sv,bC];refine fu _ λi y ak=>?_;show(m.l.set x.eR.toNat (p.length:Int))[y.toNat]?=_;rw[List.map_append,List.getElem?_append]at ak;split at ak
  ·rename_i hi;have FQ:y∈p.map (·.eR):=List.mem_of_getElem? ak;obtain⟨z,hz,rfl⟩:=List.mem_map.1 FQ;have avK:z.eR≠x.eR:=by
    have:=ai.mB;rw[fQ,pairwise_append]at this;have:=this.2.2 z hz x (by simp);omega
   have Qb:=ai.CN z (by rw[fQ];simp[hz]);rw[List.getElem?_set_ne (by omega)];exact fZ i _ ak
  ·rename_i hi;simp only[length_map,map_cons,map_nil]at ak hi;rw[List.getElem?_singleton]at ak;split at ak
   ·rename_i h1;cases ak;rw[List.getElem?_set_self (by omega),show p.length=i by omega]
   ·cases ak
 ·intro m j1
  have EI:∀x∈ids g,b2 m.l x=some ((ids g).idxOf x:Int):=λx u=>by
   have h1:=j1 ((ids g).idxOf x) x (by
    have:=List.idxOf_lt_length_of_mem u;show(ids g)[(ids g).idxOf x]?=some x;rw[List.getElem?_eq_getElem this];exact congrArg some (getElem_idxOf _))
   have:=DF ai u;unfold b2;rw[if_pos (by omega)];exact h1
  refine Ok.hU (by simp;omega) (Ok.hU (by simp;omega) ?_);have jx:(List.replicate ((g.cn.length:Nat):Int).toNat []:fI).length=(ids g).length:=by simp[vI]
  rw[jx];refine axP (λj (m2:fI)=>m2.length=(ids g).length∧∀aq:Nat,(aq:Int)<j→m2.getD aq []=List.replicate (ids g).length 0) 0 ((ids g).length:Int) ?_ ?_ _ 0 _ (by simp) (by omega) (by omega) ⟨jx,λaq cF=>by omega⟩
  ·rintro j m2 gX Cy vJ ⟨aP,fZ⟩ rA;obtain⟨aq,rfl⟩:=Int.eq_ofNat_of_zero_le Cy;refine Ok.hU (by simp;omega) ?_;rw[lH [] (by omega),bC];refine rA _ ⟨by rw[length_set];exact aP,λw aA=>?_⟩;rw[Int.toNat_natCast,Int.toNat_natCast,qG [] (by omega)];split
   ·rw[vI]
   ·exact fZ w (by omega)
  ·rintro j m2 Cy vJ ⟨aP,fZ⟩;have aY:=vJ (by omega);subst aY;have b7:∀{x},x∈ids g→(ids g).idxOf x<(ids g).length:=λu=>List.idxOf_lt_length_of_mem u;refine axF (L:=g.Links) (λp (o6:fI)=>o6.length=(ids g).length∧(∀aq,aq<(ids g).length→(o6.getD aq []).length=(ids g).length)∧(∀a∈p.flatMap kB,jt o6 ((ids g).idxOf a.Hop.bh) ((ids g).idxOf a.Hop.aS)=a.hM)∧∀aq v,aq<(ids g).length→v<(ids g).length→0<jt o6 aq v→bW.mk (aQ.mk ((ids g).getD aq 0) ((ids g).getD v 0)) (jt o6 aq v)∈p.flatMap kB) ?_ _ ⟨aP,λaq cF=>by rw[fZ aq (by omega)];simp,λa aI=>by simp at aI,λaq v cF kU h=>?_⟩ ?_
   ·rintro p l r o6 jc fQ ⟨jO,FL,dZ,fq⟩ Fs;have aP:l∈g.Links:=by rw[fQ];simp
    have EG:=ai.ends l aP;have tj:=pP.2 EG.1;have tq:=pP.2 EG.2;have cq:=ai.lt l aP;have di:(ids g).idxOf l.A≠(ids g).idxOf l.B:=λe=>by have:=Bv tj tq e;omega
    have FX:=b7 tj;have FY:=b7 tq;rw[EI _ tj,EI _ tq,bC,lH [] (by omega),bC,bC,lH [] (by omega),bC,lH 0 (by rw[FL _ FX];exact FY),bC,Int.toNat_natCast,Int.toNat_natCast];have Jy:=Mc (v:=(ids g).idxOf l.B) (c:=l.ki) jO FL FX;have qz:(o6.set ((ids g).idxOf l.A) ((o6.getD ((ids g).idxOf l.A) []).set ((ids g).idxOf l.B) l.ki)).length=(ids g).length:=by rw[length_set];exact jO
    have Pp:=MK (v:=(ids g).idxOf l.B) (c:=l.ki) jO FL FX FY;generalize o6.set ((ids g).idxOf l.A) ((o6.getD ((ids g).idxOf l.A) []).set ((ids g).idxOf l.B) l.ki)=C4 at Jy qz Pp ⊢;rw[lH [] (by omega),bC,lH 0 (by rw[Jy _ FY];exact FX),bC];have ao7:=Mc (v:=(ids g).idxOf l.A) (c:=l.lJ) qz Jy FY;have YJ:=MK (v:=(ids g).idxOf l.A) (c:=l.lJ) qz Jy FY FX;have vM:=M0 ai;unfold jW at vM;rw[fQ,List.flatMap_append,flatMap_cons,pairwise_append]at vM;have qA:∀a∈p.flatMap kB,∀b∈kB l,a.Hop≠b.Hop:=λa aI b Y=>vM.2.2 a aI b (List.mem_append.2 (.inl Y));have gi:∀a∈p.flatMap kB,a.Hop.bh∈ids g∧a.Hop.aS∈ids g:=λa aI=>DE ai (by unfold jW;rw[fQ,List.flatMap_append];exact List.mem_append.2 (.inl aI));have e1:bW.mk (aQ.mk l.A l.B) l.ki∈kB l:=by simp[kB]
    have e2:bW.mk (aQ.mk l.B l.A) l.lJ∈kB l:=by simp[kB]
    refine Fs _ ⟨by rw[length_set];exact qz,ao7,λa aI=>?_,λaq v cF kU tD=>?_⟩
    ·rw[YJ,Pp];rw[List.flatMap_append,List.flatMap_singleton]at aI;rcases List.mem_append.1 aI with aI|aI
     ·obtain⟨ay,aG⟩:=gi a aI;rw[if_neg,if_neg]
      ·exact dZ a aI
      ·rintro⟨h1,D⟩;refine qA a aI _ e1 ?_;have cZ:=Bv ay tj h1;have c8:=Bv aG tq D;cases cA:a.Hop with
       |mk f t=>rw[cA]at cZ c8;simp only at cZ c8;rw[cZ,c8]
      ·rintro⟨h1,D⟩;refine qA a aI _ e2 ?_;have cZ:=Bv ay tq h1;have c8:=Bv aG tj D;cases cA:a.Hop with
       |mk f t=>rw[cA]at cZ c8;simp only at cZ c8;rw[cZ,c8]
     ·simp only[kB,mem_cons,not_mem_nil,or_false]at aI;rcases aI with rfl|rfl
      ·rw[if_neg (λh=>di h.1),if_pos ⟨rfl,rfl⟩]
      ·rw[if_pos ⟨rfl,rfl⟩]
    ·rw[YJ,Pp]at tD ⊢;rw[List.flatMap_append,List.flatMap_singleton];by_cases aN:aq=(ids g).idxOf l.B∧v=(ids g).idxOf l.A
     ·obtain⟨rfl,rfl⟩:=aN;rw[if_pos ⟨rfl,rfl⟩,yX tj,yX tq];exact List.mem_append.2 (.inr e2)
     ·rw[if_neg aN]at tD ⊢;by_cases bw:aq=(ids g).idxOf l.A∧v=(ids g).idxOf l.B
      ·obtain⟨rfl,rfl⟩:=bw;rw[if_pos ⟨rfl,rfl⟩,yX tj,yX tq];exact List.mem_append.2 (.inr e1)
      ·rw[if_neg bw]at tD ⊢;exact List.mem_append.2 (.inl (fq aq v cF kU tD))
   ·exfalso;unfold jt at h;rw[fZ aq (by omega),getD_eq_getElem?_getD,List.getElem?_replicate,if_pos kU]at h;simp at h
   ·rintro o6 ⟨jO,FL,dZ,fq⟩;refine Ok.s ⟨⟨fH,by omega,jO,FL,λa aI=>?_,fq⟩,EI⟩;have:=DE ai aI;have ah:=(M1 ai).cost a aI;exact⟨this.1,this.2,dZ a aI,ah.1,ah.2⟩
end
section
abbrev zJ(l:cN):Bool:=kX (λa b=>decide (a<b)) l
noncomputable def mg(t:bu)(x:bR)(rs:cN):Int:=
 bif !decide (lf t=0)then 1 else bif !decide (mW x=0)then mW x else bif (x.cc::rs).any (λr=>!jl t r)then 4 else bif x.Links.any (λh=>!(nG t h.bh h.aS).2)then 4 else bif !zJ rs then 25 else bif rs.any (λr=>!decide (r∈tX x))then 9 else 0
def KE(t:bu)(x:bR)(rs:cN)(u:x.Links.length≤90000)(aC:rs.length≤90000):Ao t x rs=some (mg t x rs):=by
 unfold Ao mg;rw[K9,bC];by_cases h:lf t=0
 rotate_left
 ·rw[decide_eq_false h];rfl
 have ai:=qH.1 h;have FG:=ai.A6;have kj:=ai.nl;rw[decide_eq_true h,Q4 _ (by omega),bC];simp only[Bool.not_true,cond_false];cases ah:!decide (mW x=0)with
 |true=>rfl
 |false=>
  simp only[cond_false];rw[oy (by simp;omega),bC]
  refine(mh (λr=>!jl t r) (some 4) (λj r bM s=>by
   rw[MW t r (by omega),bC,decide_eq_true h,Bool.true_and]) _ _ _).trans ?_
  show(bif (x.cc::rs).any (λr=>!jl t r)then some 4 else _)=_;cases(x.cc::rs).any (λr=>!jl t r)with
  |true=>rfl
  |false=>
   simp only[cond_false]
   refine(mh (λe:aQ=>!(nG t e.bh e.aS).2) (some 4) (λj r bM s=>by
    rw[TK t _ _ (by omega),if_pos h,bC]) _ _ _).trans ?_
   cases x.Links.any (λe=>!(nG t e.bh e.aS).2)with
   |true=>rfl
   |false=>
    simp only[cond_false];rw[aiT _ (by omega),bC];cases !kX (λa b:Int=>decide (a<b)) rs with
    |true=>rfl
    |false=>
     simp only[cond_false];rw[acd _ (by omega),bC];refine(mh (λr=>!decide (r∈tX x)) (some 9) (λj r bM s=>by rw[agc,bC]) _ _ _).trans ?_;cases rs.any (λr=>!decide (r∈tX x))<;>rfl
def Q3(t:bu)(x:bR)(rs:cN)(u:x.Links.length≤90000)(aC:rs.length≤90000):Ai t x rs=some (mg t x rs):=by
 unfold Ai mg;rw[GZ,bC];by_cases h:lf t=0
 rotate_left
 ·rw[decide_eq_false h];rfl
 rw[decide_eq_true h,QZ _ (by omega),bC];simp only[Bool.not_true,cond_false];cases ah:!decide (mW x=0)with
 |true=>rfl
 |false=>
  simp only[cond_false];rw[MV,bC,decide_eq_true h,Bool.true_and,any_cons];cases jl t x.cc with
  |false=>rfl
  |true=>
  simp only[Bool.not_true,cond_false,Bool.false_or]
  refine(mh (λr=>!jl t r) (some 4) (λj r bM s=>by
   rw[MV t r,bC,decide_eq_true h,Bool.true_and]) _ _ _).trans ?_
  cases rs.any (λr=>!jl t r)with
  |true=>rfl
  |false=>
   simp only[cond_false]
   refine(mh (λe:aQ=>!(nG t e.bh e.aS).2) (some 4) (λj r bM s=>by
    rw[TJ t,if_pos h,bC]) _ _ _).trans ?_
   cases x.Links.any (λe=>!(nG t e.bh e.aS).2)with
   |true=>rfl
   |false=>
    simp only[cond_false];rw[Tq _ (by omega),bC];show(bif !kX (λa b:Int=>decide (a<b)) rs then _ else _)=_;cases !kX (λa b:Int=>decide (a<b)) rs with
    |true=>rfl
    |false=>
     simp only[cond_false];rw[abU _ (by omega),bC];refine(mh (λr=>!decide (r∈tX x)) (some 9) (λj r bM s=>by rw[Cg,bC]) _ _ _).trans ?_;cases rs.any (λr=>!decide (r∈tX x))<;>rfl
def EH(t:bu)(l:Es):Int:=l.foldl (λn h=>bE (n+(nG t h.bh h.aS).1)) 0
noncomputable def Cd(t:bu)(x:bR):Int×Int:=bif !decide (mg t x []=0)then(0,mg t x [])else(EH t x.Links,0)
def LO{α σ β:Type}{B:Int→α→(σ→Option β)→σ→Option β}{K:σ→Option β}(f:σ→α→σ)(fq:∀j x bM s,B j x bM s=bM (f s x)):∀(l:List α) (j:Nat) (s:σ),cK l j B K s=K (l.foldl f s)
 |[],_,_=>rfl
 |x::r,j,s=>by rw[cK,fq,LO f fq r (j+1)];rfl
def Vj{t:bu}{x:bR}{rs:cN}(h:mg t x rs=0):lf t=0:=by
 by_cases h1:lf t=0
 ·exact h1
 ·unfold mg at h;rw[decide_eq_false h1]at h;cases h
def agp(t:bu)(x:bR)(u:x.Links.length≤90000):Gu t x=some (Cd t x):=by
 unfold Gu Cd;rw[KE t x [] u (by simp),bC];by_cases h:mg t x []=0
 ·rw[decide_eq_true h];have ah:=Vj h;have kj:=(qH.1 ah).nl;simp only[Bool.not_true,cond_false];refine(LO (λn (h:aQ)=>bE (n+(nG t h.bh h.aS).1)) (λj e bM s=>by rw[TK t _ _ (by omega),if_pos ah,bC]) _ _ _).trans ?_;rfl
 ·rw[decide_eq_false h];rfl
def acj(t:bu)(x:bR)(u:x.Links.length≤90000):GJ t x=some (Cd t x):=by
 unfold GJ Cd;rw[Q3 t x [] u (by simp),bC];by_cases h:mg t x []=0
 ·rw[decide_eq_true h];have ah:=Vj h;simp only[Bool.not_true,cond_false];refine(LO (λn (h:aQ)=>bE (n+(nG t h.bh h.aS).1)) (λj e bM s=>by rw[TJ t,if_pos ah,bC]) _ _ _).trans ?_;rfl
 ·rw[decide_eq_false h];rfl
def adG{g:bu}(ai:iq g){a:bW}(aI:a∈jW g):nG g a.Hop.bh a.Hop.aS=(a.hM,true):=by
 obtain⟨l,aP,h⟩:=u1.1 aI;have cq:=ai.lt l aP;have di:l.A≠l.B:=by omega
 rcases h with rfl|rfl
 ·show nG g l.A l.B=_;rw[Mu ai aP (by simp[qF])];simp[Bn]
 ·show nG g l.B l.A=_;rw[Mu ai aP (by simp[qF])];simp[Bn,di]
def Md{l:cN}(h:l.Pairwise (·<·)):zJ l=true:=C7 (h.imp λh=>by simpa using h)
def agq{g:bu}(ai:iq g){a8:yO}(mI:∀a∈a8,a∈jW g){root:Int}(aC:root∈ids g){ts rs:cN}{Z:Es}{c:Int}(h:rX a8 root ts Z c)(h1:rs.Pairwise (·<·))(D:∀x∈rs,x∈ids g)(aj:∀x∈rs,x∈ts):mg g (bR.mk root Z) rs=0:=by
 have oz:=ago ai mI aC h;unfold mg;rw[decide_eq_true (qH.2 ai),decide_eq_true (DO.2 oz)];simp only[Bool.not_true,cond_false]
 rw[lE.2 (λx u=>by
  rcases mem_cons.1 u with rfl|u
  ·rw[pP.1 aC];rfl
  ·rw[pP.1 (D x u)];rfl),lE.2 (λx u=>by
  obtain⟨⟨gu,h4,_,aK⟩,_⟩:=h;obtain⟨a,aI,rfl⟩:=List.mem_map.1 (aK.mem_iff.1 u);rw[adG ai (mI a (h4.sub a aI))];rfl),Md h1]
 simp only[Bool.not_true,cond_false]
 rw[lE.2 (λx u=>by
  have:x∈tX (bR.mk root Z):=(agj oz).2 (aci h (aj x u));rw[decide_eq_true this];rfl)]
 rfl
end
section
def aiY{l:cN}(aP:l.length≤1000000)(aI:l.Pairwise (·<·))(x:Int):∃i,Fe l x=some (i,decide (x∈l)):=by
 have e:q2 (λy:Int=>iB y x) l=decide (x∈l):=by
  rw[Bool.eq_iff_iff,decide_eq_true_eq,MU (QO (aI.imp λ{a b} h=>?_))]
  ·constructor
   ·rintro⟨y,ak,h⟩;rw[sJ]at h;subst h;exact ak
   ·intro h;exact⟨x,h,sJ.2 rfl⟩
  ·unfold iB;repeat' split
   all_goals omega
 refine⟨(nz (λy:Int=>iB y x) l:Int),?_⟩;rw[←e];unfold Fe
 have Zw:∀y:Int,Gt y x=some (decide (y<x)):=λy=>by
  unfold Gt wY;simp[bC]
 refine MT l (λy:Int=>iB y x) aP λi j bM aY=>?_;by_cases iC:i<j
 ·rw[dif_pos iC];simp only[MS (i:=i) (j:=j) (by omega),y8 (show(i+j) / 2<l.length by omega),bC,Zw,tM];rw[if_pos (by omega),g4 (by omega) (by omega)];by_cases h:el l ((i+j) / 2:Nat)<x
  ·rw[if_pos h,if_pos (LF.2 h)];rfl
  ·rw[if_neg h,if_neg (λct=>h (LF.1 ct))]
 ·rw[dif_neg iC];simp only[tM];rw[if_neg (by omega)];by_cases hi:i<l.length
  ·rw[if_pos (by omega),y8 hi];simp only[bC,Ga];by_cases h:el l i=x
   ·rw[if_pos h,decide_eq_true hi,decide_eq_true (sJ.2 h)];rfl
   ·rw[if_neg h,decide_eq_true hi,decide_eq_false (λct=>h (sJ.1 ct))];simp
  ·rw[if_neg (by omega)];simp[hi]
abbrev fA:=List (aQ×Int)
instance avz:DecidableEq aQ:=λa b=>decidable_of_iff (dj a b=true) (ru a b)
def DI(l:fA)(n m:aQ)(v:Int):dL dj (gq dj l n v) m=if m=n then some v else dL dj l m:=by
 induction l with
 |nil=>
  simp only[gq,dL,find?_cons,find?_nil];cases h:dj m n with
  |true=>rw[if_pos ((ru _ _).1 h)];rfl
  |false=>rw[if_neg (λe=>by rw[(ru m n).2 e]at h;cases h)]
 |cons p r bX=>
  simp only[gq];cases be:dj n p.1 with
  |true=>
   have be:=(ru _ _).1 be;simp only[cond_true,dL,find?_cons];rw[←be];cases h:dj m n with
   |true=>rw[if_pos ((ru _ _).1 h)];rfl
   |false=>rw[if_neg (λe=>by rw[(ru m n).2 e]at h;cases h)]
  |false=>
   simp only[cond_false,dL,find?_cons];cases h:dj m p.1 with
   |true=>
    have h:=(ru _ _).1 h;rw[if_neg (λe=>by rw[←e,h,(ru p.1 p.1).2 rfl]at be;cases be)]
   |false=>
    have:=bX;simp only[dL]at this;exact this
def D9{l:fA}(aa:(l.map (·.1)).Nodup){n:aQ}{v:Int}(h:(n,v)∈l):dL dj l n=some v:=by
 induction l with
 |nil=>cases h
 |cons p r bX=>
  simp only[map_cons,nodup_cons]at aa;simp only[dL,find?_cons];rcases mem_cons.1 h with rfl|h
  ·rw[(ru n n).2 rfl];rfl
  ·cases he:dj n p.1 with
   |true=>rw[(ru _ _).1 he]at h;exact(aa.1 (List.mem_map.2 ⟨_,h,rfl⟩)).elim
   |false=>exact bX aa.2 h
def LP{l:fA}{n:aQ}:dL dj l n=none↔n∉l.map (·.1):=by
 simp only[dL,Option.map_eq_none_iff,List.find?_eq_none,List.mem_map];constructor
 ·rintro h ⟨p,aK,rfl⟩;exact h p aK ((ru _ _).2 rfl)
 ·intro h p aK he;exact h ⟨p,aK,((ru _ _).1 he).symm⟩
def ML(l:fA)(n:aQ)(v:Int):(gq dj l n v).map (·.1)=if n∈l.map (·.1)then l.map (·.1)else l.map (·.1)++[n]:=by
 induction l with
 |nil=>simp[gq]
 |cons p r bX=>
  simp only[gq];cases be:dj n p.1 with
  |true=>
   have be:=(ru _ _).1 be;simp[be]
  |false=>
   have di:n≠p.1:=λe=>by rw[(ru n p.1).2 e]at be;cases be
   simp only[cond_false,map_cons,bX,mem_cons,di,false_or];split<;>simp
def Ew{l:fA}(h:(l.map (·.1)).Nodup)(n:aQ)(v:Int):((gq dj l n v).map (·.1)).Nodup:=by
 rw[ML];split
 ·exact h
 ·rename_i be;rw[nodup_append];exact⟨h,by simp,λa aI b Y=>by rw[List.mem_singleton]at Y;subst Y;exact λe=>be (e▸aI)⟩
def Vk{α σ:Type}{B:Int→α→(σ→kr)→σ→kr}{K:σ→kr}(p:α→Bool)(fq:∀j x bM s,B j x bM s=bif p x then some j else bM s)(gE:∀s,K s=some (-1)):∀(l:List α) (j:Nat) (s:σ),
  (cK l j B K s=some (-1)∧∀x∈l,p x=false)∨∃k,k<l.length∧cK l j B K s=some ((j+k:Nat):Int)∧(∀x∈l.take k,p x=false)∧∃x,l[k]?=some x∧p x=true
 |[],j,s=>.inl ⟨gE s,λx u=>by cases u⟩
 |x::r,j,s=>by
  simp only[cK,fq];cases aK:p x
  ·rcases Vk p fq gE r (j+1) s with⟨h1,D⟩|⟨k,h1,D,aj,aV⟩
   ·refine .inl ⟨by simpa using h1,λy ak=>?_⟩;rcases mem_cons.1 ak with rfl|ak
    ·exact aK
    ·exact D y ak
   ·refine .inr ⟨k+1,by simpa using h1,by simp only[cond_false,D];congr 2;omega,λy ak=>?_,by simpa using aV⟩;rw[take_succ_cons]at ak;rcases mem_cons.1 ak with rfl|ak
    ·exact aK
    ·exact aj y ak
  ·exact .inr ⟨0,by simp,by simp,(λy ak=>by simp at ak),x,by simp,aK⟩
def agr(l:yO)(aP:l.length≤1000000)(f:bW→ko)(p:bW→Bool)(bc:∀x,f x=some (p x)):E7 l f=some (l.filter λx=>!p x):=by
 unfold E7 Jf;rcases Vk (B:=λ(au:Int) (e1:bW) (b3:Unit→kr) (af:Unit)=>match af with|()=>aB (f e1) λ(aJ:Bool)=>bif aJ then some (au:Int)else b3 ()) (K:=λ(af:Unit)=>match af with|()=>some (-1:Int)) p (λj x bM s=>by simp only[bc,bC]) (λ_=>rfl) l 0 ()with⟨h1,D⟩|⟨k,h1,D,aj,x,aV,b4⟩
 ·rw[h1,bC,decide_eq_true rfl,cond_true,List.filter_eq_self.2 λx u=>by rw[D x u];rfl]
 ·have hk:(l.take (k+1)).filter (λx=>!p x)=l.take k:=by
   rw[take_add_one,aV,List.filter_append,List.filter_eq_self.2 λx u=>by rw[aj x u];rfl];simp[b4]
  rw[D,bC,Nat.zero_add,decide_eq_false (by omega),cond_false]
  refine Ok.eq (axH (λaf:yO×Int×Int=>∃i j:Nat,af.2.1=i∧af.2.2=j∧i<j∧j≤l.length∧af.1.length=l.length∧af.1.take i=(l.take j).filter (λx=>!p x)∧af.1.drop j=l.drop j) (λaf=>l.length-af.2.2.toNat)
   ⟨k,k+1,rfl,by simp only;rw[g4 (by omega) (by omega)];rfl,by omega,by omega,rfl,hk.symm,rfl⟩ (by simp only;omega) ?_)
  rintro⟨vs,i,j⟩ bM ⟨i,j,rfl,rfl,iC,p8,eH,bU,aa⟩ fu;simp only at eH bU aa fu ⊢;rw[eH];by_cases cq:j<l.length
  ·rw[decide_eq_true (by omega),cond_true];have aY:vs[j]?=some l[j]:=by
    have:=congrArg (·[0]?) aa;simpa [getElem?_drop,List.getElem?_eq_getElem cq]using this
   have e1:b2 vs (j:Int)=some l[j]:=by unfold b2;rw[if_pos (by omega),Int.toNat_natCast];exact aY
   have vJ:bE ((j:Int)+1)=((j+1:Nat):Int):=by rw[g4 (by omega) (by omega)];rfl
   have k6:vs.drop (j+1)=l.drop (j+1):=by
    have:=congrArg (List.drop 1) aa;simpa [drop_drop,Nat.add_comm]using this
   have uT:l.take (j+1)=l.take j++[l[j]]:=by rw[take_add_one,List.getElem?_eq_getElem cq];rfl
   simp only[jn,e1,bC,bc];cases aK:p l[j]with
   |true=>
    simp only[Bool.not_true,cond_false];refine fu _ ⟨i,j+1,rfl,vJ,by omega,by omega,eH,?_,k6⟩ (by simp only[vJ];omega);rw[bU,uT,List.filter_append];simp[aK]
   |false=>
    simp only[Bool.not_false,cond_true];have e2:b2 vs (i:Int)=some (vs[i]'(by omega)):=by unfold b2;rw[if_pos (by omega),Int.toNat_natCast];exact List.getElem?_eq_getElem (by omega)
    have bT:oh vs (i:Int) l[j]=some (vs.set i l[j]):=by obtain⟨m,cZ,c8,_⟩:=y7 (l:=vs) (i:=(i:Int)) (x:=l[j]) (by omega) (by omega);rw[cZ,c8,Int.toNat_natCast]
    have gi:bE ((i:Int)+1)=((i+1:Nat):Int):=by rw[g4 (by omega) (by omega)];rfl
    simp only[e2,bC,bT];refine fu _ ⟨i+1,j+1,gi,vJ,by omega,by omega,by simp[eH],?_,?_⟩ (by simp only[vJ];omega)
    ·rw[take_add_one,take_set_of_le (Nat.le_refl _),bU,uT,List.filter_append];simp[aK,List.getElem?_set,show i<vs.length by omega]
    ·rw[drop_set_of_lt (by omega)];exact k6
  ·obtain rfl:j=l.length:=by omega
   rw[decide_eq_false (by omega),cond_false];refine Ok.hU (by simp;omega) ?_;rw[take_length]at bU;obtain⟨m,cZ,c8,_⟩:=Bu (l:=vs.take (i:Int).toNat++List.replicate (l.length-(i:Int).toNat) (bW.mk (aQ.mk (0:Int) (0:Int)) (0:Int))) (a:=0) (b:=(i:Int)) (by simp;omega);rw[cZ,bC];refine Ok.s ?_;rw[c8,Int.toNat_natCast,take_append_of_le_length (by simp;omega),take_take,Nat.min_self,bU];rfl
def dN(r:fA)(h:aQ):Int:=(dL dj r h).getD 0
def hF(g:bu)(r:fA)(n:Int):yO:=(jW g).filter λa=>decide (n≤dN r a.Hop)
def Bi{g:bu}{r:fA}{n:Int}{a:bW}:a∈hF g r n↔a∈jW g∧n≤dN r a.Hop:=by simp[hF]
def aeB{a b:yO}(h:∀x∈a,x∈b)(aP:a.length≤1000)(Y:pR b):pR a:=⟨λx u=>Y.cost x (h x u),λx u=>Y.to x (h x u),λx u y ak=>Y.hop x (h x u) y (h y ak),aP⟩
def Bo{g:bu}(ai:iq g)(r:fA)(n:Int):pR (hF g r n):=aeB (λ_ h=>(Bi.1 h).1) (by have:=length_filter_le (λa:bW=>decide (n≤dN r a.Hop)) (jW g);have:=Bh g;have:=ai.nl;unfold hF;omega) (M1 ai)
def ND{g:bu}(ai:iq g)(r:fA)(n:Int):∃m,Ae r g n=some m∧m.Perm (hF g r n):=by
 obtain⟨m,hm,aK⟩:=alZ ai;have aP:=aK.length_eq;rw[Bh]at aP;have:=ai.nl;unfold Ae;rw[hm,bC,agr m (by omega) (λj6=>JF j6 r n) (λa=>decide (dN r a.Hop<n)) (λx=>rfl),bC];refine⟨_,rfl,?_⟩
 have e:(λx:bW=>!decide (dN r x.Hop<n))=λa=>decide (n≤dN r a.Hop):=by
  funext a;rw[Bool.eq_iff_iff];simp
 rw[e];exact aK.filter _
structure L4(a8:List bW)(root:Int)(out:List Int)(m:List (Int×Bool)):Prop where
 nd:out.Nodup
 Jb:∀x∈out,e9 fv a8 root x
 root:root∈out
 map:∀x,(cH m x).getD false=decide (x∈out)
def LQ{H:yO}{v aq:Int}(h:e9 fv H v aq):aq=v∨∃a∈H,a.Hop.aS=aq:=by
 induction h with
 |refl v=>exact .inl rfl
 |step a aI _ bX=>
  rcases bX with h|h
  ·exact .inr ⟨a,aI,h.symm⟩
  ·exact .inr h
def Sz{H:yO}{v aq:Int}(h:e9 fv H v aq){l:cN}(ah:∀a∈H,a.Hop.bh∈l→a.Hop.aS∈l)(ai:v∈l):aq∈l:=by
 induction h with
 |refl v=>exact ai
 |step a aI _ bX=>exact bX (ah a aI ai)
def Vl{a8:yO}{root:Int}{out:cN}{m:List (Int×Bool)}(h:L4 a8 root out m):out.length≤a8.length+1:=by
 have:=vX (b:=root::a8.map (·.Hop.aS)) h.nd λx u=>by
  rcases LQ (h.Jb x u)with rfl|⟨a,aI,rfl⟩
  ·simp
  ·exact mem_cons_of_mem _ (List.mem_map.2 ⟨a,aI,rfl⟩)
 simpa using this
def y2{a8:yO}(aP:a8.length≤1000)(root:Int):Ok (Gk a8 root) λl=>l.Pairwise (·<·)∧∀x,x∈l↔e9 fv a8 root x:=by
 unfold Gk;refine axH (λaf:cN×Int×List (Int×Bool)=>L4 a8 root af.1 af.2.2∧∃i:Nat,af.2.1=i∧i≤af.1.length∧∀k,k<i→∀a∈a8,af.1[k]?=some a.Hop.bh→a.Hop.aS∈af.1) (λaf=>2000-af.2.1.toNat) ?_ (by simp only;omega) ?_
 ·refine⟨⟨by simp,?_,by simp,λx=>?_⟩,0,rfl,by simp,λk hk=>by omega⟩
  ·intro x u;rw[List.mem_singleton]at u;subst u;exact .refl _
  ·simp only[eG,cH,find?_cons,find?_nil,List.mem_singleton];by_cases h:x=root
   ·subst h;simp
   ·have:¬root=x:=λe=>h e.symm;simp[h,this]
 ·rintro⟨out,i,m⟩ bM ⟨fZ,i,rfl,hi,iQ⟩ fu;simp only at fZ hi iQ fu ⊢;have eH:=Vl fZ;by_cases cq:i<out.length
  ·rw[decide_eq_true (by omega),cond_true];refine axF (λpre (af:cN×List (Int×Bool))=>L4 a8 root af.1 af.2∧out <+: af.1∧∀a∈pre,out[i]?=some a.Hop.bh→a.Hop.aS∈af.1) ?_ _ ⟨fZ,prefix_refl _,λk hk=>by cases hk⟩ ?_
   ·rintro pre a c2 ⟨o,m⟩ b5 fQ ⟨h1,D,aj⟩ hI;have aI:a∈a8:=by rw[fQ];simp
    simp only at h1 D aj hI ⊢;obtain⟨t,rfl⟩:=D;have sA:(out++t)[i]?=some out[i]:=by rw[List.getElem?_append_left cq];exact List.getElem?_eq_getElem cq
    have e1:b2 (out++t) (i:Int)=some out[i]:=by unfold b2;rw[if_pos (by simp),Int.toNat_natCast];exact sA
    have aoP:=h1.map a.Hop.aS
    have PW:∀fS:cN,(∀x∈out++t,x∈fS)→(out[i]?=some a.Hop.bh→a.Hop.aS∈fS)→∀b∈pre++[a],out[i]?=some b.Hop.bh→b.Hop.aS∈fS:=λfS Z be b Y bc=>by
     rcases List.mem_append.1 Y with Y|Y
     ·exact Z _ (aj b Y bc)
     ·rw[List.mem_singleton]at Y;subst Y
      exact be bc
    simp only[jn,e1,bC];by_cases bc:a.Hop.bh=out[i]
    ·rw[decide_eq_true bc,cond_true,aoP];by_cases gi:a.Hop.aS∈out++t
     ·rw[decide_eq_true gi];simp only[Bool.not_true,cond_false];exact hI _ ⟨h1,prefix_append _ _,PW _ (λ_ h=>h) λ_=>gi⟩
     ·rw[decide_eq_false gi];simp only[Bool.not_false,cond_true];have:=Vl h1;rw[oy (by simp only[length_cons,length_nil];omega),bC];refine hI _ ⟨⟨?_,?_,?_,λx=>?_⟩,by simp only[List.append_assoc];exact prefix_append _ _,PW _ (λx u=>List.mem_append_left _ u) λ_=>by simp⟩
      ·rw[nodup_append];exact⟨h1.nd,by simp,λx u y ak=>by rw[List.mem_singleton]at ak;subst ak;exact λe=>gi (e▸u)⟩
      ·intro x u;rcases List.mem_append.1 u with u|u
       ·exact h1.Jb x u
       ·rw[List.mem_singleton]at u;subst u
        have ah:=h1.Jb out[i] (List.mem_append_left _ (List.getElem_mem cq));rw[←bc]at ah;exact ah.trans (e9.one (N:=fv) aI)
      ·exact List.mem_append_left _ h1.root
      ·have:=h1.map x;simp only[TL]at this ⊢;by_cases u:x=a.Hop.aS
       ·subst u;simp
       ·rw[if_neg u,this];simp[u]
    ·rw[decide_eq_false bc,cond_false];simp only[cond_false];exact hI _ ⟨h1,prefix_append _ _,PW _ (λ_ h=>h) λhe=>absurd (by rw[List.getElem?_eq_getElem cq]at he;injection he with he;exact he.symm) bc⟩
   ·rintro⟨o,m⟩ ⟨h1,D,aj⟩;simp only at h1 D aj ⊢;have iY:bE ((i:Int)+1)=((i+1:Nat):Int):=by rw[g4 (by omega) (by omega)];rfl
    have hle:=D.length_le;refine fu _ ⟨h1,i+1,iY,by simp only;omega,λk hk a aI he=>?_⟩ (by simp only[iY];omega);simp only at he ⊢;by_cases rD:k=i
    ·subst rD;exact aj a aI (by rw[←he];obtain⟨t,rfl⟩:=D;exact(List.getElem?_append_left cq).symm)
    ·have sx:k<i:=by omega
     refine D.subset (iQ k sx a aI ?_);rw[←he];obtain⟨t,rfl⟩:=D;exact(List.getElem?_append_left (by omega)).symm
  ·obtain rfl:i=out.length:=by omega
   rw[decide_eq_false (by omega),cond_false];refine Ok.hU (by simp;omega) (Ok.s ⟨TI fZ.nd,λx=>?_⟩);rw[RR];refine⟨fZ.Jb x,λh=>Sz h (λa aI bc=>?_) fZ.root⟩;obtain⟨k,hk⟩:=List.getElem?_of_mem bc;exact iQ k (List.getElem?_eq_some_iff.1 hk).1 a aI hk
end
section
structure oj(g:bu)(d:bY):Prop where
 root:d.cc∈ids g
 mB:d.dM.Pairwise (·<·)
 recv:∀x∈d.dM,x∈ids g
 len:d.dM.length≤6
 iN:1≤d.de∧d.de≤1000
variable {g:bu}
def adH(ai:iq g){d:bY}(h:oj g d):Al g d=some 0:=by
 have aP:=h.len;have aC:=h.iN;have FG:=ai.A6;unfold Al;rw[decide_eq_false (by omega),cond_false]
 refine(yQ (λa b:Int=>decide (a<b)) (some 25) (λj x y r q s bM fQ aY=>by
  simp only[v1 fQ aY (by omega),bC];by_cases h:y<x
  ·have:¬x≤y:=by omega
   simp[h,this]
  ·have:x≤y:=by omega
   simp[h,this]) _).trans ?_
 rw[show kX (λa b:Int=>decide (a<b)) d.dM=true from Md h.mB,cond_true];show aB (jf _ _) _=_;rw[oy (by simp;omega),bC]
 refine(mh (λr=>!jl g r) (some 4) (λj x bM s=>by
  rw[MW g x (by omega),bC,decide_eq_true (qH.2 ai),Bool.true_and]) _ _ _).trans ?_
 rw[lE.2 λx u=>by
  rcases List.mem_append.1 u with u|u
  ·rw[List.mem_singleton]at u;subst u;rw[pP.1 h.root];rfl
  ·rw[pP.1 (h.recv x u)];rfl]
 simp only[cond_false];rw[decide_eq_false (by omega),decide_eq_false (by omega)];rfl
variable {ds:Bk}
def RS(ai:iq g)(h:∀d∈ds,oj g d)(aP:ds.length≤12):ux g ds=some 0:=by
 unfold ux;rw[K9,bC,decide_eq_true (qH.2 ai),Bool.not_true,cond_false,decide_eq_false (by omega),cond_false];refine Ok.eq (axR (λ_ _=>True) (λj x s bM aY u _ fu=>?_) _ trivial λs _=>⟨0,rfl,rfl⟩);simp only[adH ai (h x u),bC];exact fu _ trivial
structure mZ(g:bu)(r:fA):Prop where
 nd:(r.map (·.1)).Nodup
 key:∀h,h∈r.map (·.1)↔∃a∈jW g,a.Hop=h
 val:∀h v,dL dj r h=some v→0≤v∧v≤1000
variable {r:fA}
def mZ.rg(h:mZ g r)(x:aQ):0≤dN r x∧dN r x≤1000:=by
 unfold dN;cases bQ:dL dj r x with
 |none=>simp
 |some v=>exact h.val x v bQ
def mZ.some{g:bu}{r:fA}(h:mZ g r){a:bW}(aI:a∈jW g):(dL dj r a.Hop).isSome=true:=by
 cases bQ:dL dj r a.Hop with
 |none=>exact absurd ((h.key _).2 ⟨a,aI,rfl⟩) (LP.1 bQ)
 |some v=>rfl
def uj(m:fA)(l:dJ):fA:=gq dj (gq dj m (aQ.mk l.A l.B) l.lS) (aQ.mk l.B l.A) l.lS
def wu(g:bu):fA:=g.Links.foldl uj []
structure BU(ls:List dJ)(m:fA):Prop where
 nd:(m.map (·.1)).Nodup
 get:∀h v,dL dj m h=some v→∃l∈ls,(h=aQ.mk l.A l.B∨h=aQ.mk l.B l.A)∧v=l.lS
 key:∀l∈ls,aQ.mk l.A l.B∈m.map (·.1)∧aQ.mk l.B l.A∈m.map (·.1)
def wz{l:fA}{n:aQ}{v:Int}{h:aQ}:h∈(gq dj l n v).map (·.1)↔h=n∨h∈l.map (·.1):=by
 rw[ML];split
 ·rename_i be;exact⟨.inr,λct=>ct.elim (λe=>e▸be) id⟩
 ·rw[List.mem_append,List.mem_singleton,or_comm]
def Nd:∀(ls pre:G5) (m:fA),BU pre m→BU (pre++ls) (ls.foldl uj m)
 |[],pre,m,h=>by simpa using h
 |x::r,pre,m,h=>by
  have:BU (pre++[x]) (uj m x):=by
   refine⟨Ew (Ew h.nd _ _) _ _,λk v hk=>?_,λl aP=>?_⟩
   ·unfold uj at hk;rw[DI,DI]at hk;split at hk
    ·rename_i e;cases hk
     exact⟨x,by simp,.inr e,rfl⟩
    ·split at hk
     ·rename_i e;cases hk
      exact⟨x,by simp,.inl e,rfl⟩
     ·obtain⟨l,h1,D⟩:=h.get k v hk;exact⟨l,by simp[h1],D⟩
   ·unfold uj;rw[wz,wz,wz,wz];rcases List.mem_append.1 aP with aP|aP
    ·exact⟨.inr (.inr (h.key l aP).1),.inr (.inr (h.key l aP).2)⟩
    ·rw[List.mem_singleton]at aP;subst aP
     exact⟨.inr (.inl rfl),.inl rfl⟩
  have:=Nd r (pre++[x]) _ this;simpa using this
def aiZ(g:bu):BU g.Links (wu g):=by
 have:=Nd g.Links [] [] ⟨by simp,λh v hk=>by simp[dL]at hk,λl aP=>by cases aP⟩;unfold wu;simpa using this
def KZ(g:bu):Am g=some (wu g):=by
 unfold Am;exact LO uj (λj x bM s=>rfl) _ _ _
def Lo(ai:iq g):mZ g (wu g):=by
 have fD:=aiZ g;refine⟨fD.nd,λh=>⟨λhk=>?_,?_⟩,λh v hk=>?_⟩
 ·obtain⟨p,aK,rfl⟩:=List.mem_map.1 hk;obtain⟨l,h1,D,_⟩:=fD.get p.1 p.2 (D9 fD.nd aK);rcases D with D|D
  ·exact⟨_,u1.2 ⟨l,h1,.inl rfl⟩,D.symm⟩
  ·exact⟨_,u1.2 ⟨l,h1,.inr rfl⟩,D.symm⟩
 ·rintro⟨a,aI,rfl⟩;obtain⟨l,aP,rfl|rfl⟩:=u1.1 aI
  ·exact(fD.key l aP).1
  ·exact(fD.key l aP).2
 ·obtain⟨l,h1,_,rfl⟩:=fD.get h v hk;have:=ai.Kj l h1;simp only[qU,Bool.or_eq_false_iff,decide_eq_false_iff_not]at this;omega
variable {Z:Es}
def aeC(aC:mZ g r){root n:Int}(be:1≤n∧n≤1000)(aa:Z.Nodup)(fU:∀h∈Z,(∃a∈jW g,a.Hop=h)∧n≤dN r h):
  Ok (p3 r (bR.mk root Z) n) λp=>p.1=true∧mZ g p.2∧∀h,dN p.2 h=dN r h-if h∈Z then n else 0:=by
 unfold p3;refine axF (λpre (af:Bool×fA)=>af.1=true∧mZ g af.2∧∀h,dN af.2 h=dN r h-if h∈pre then n else 0) ?_ _ ⟨rfl,aC,λh=>by simp⟩ ?_
 ·rintro pre x c2 ⟨f,m⟩ bM fQ ⟨rfl,D,aj⟩ fu;simp only at D aj fu ⊢;have fQ:Z=pre++x::c2:=fQ;have u:x∈Z:=by rw[fQ];simp
  have apy:x∉pre:=λh=>by
   rw[fQ,nodup_append]at aa;exact aa.2.2 x h x (by simp) rfl
  obtain⟨⟨a,aI,rfl⟩,hle⟩:=fU x u;have bQ:=aj a.Hop;rw[if_neg apy]at bQ;have PS:=D.rg a.Hop;have aA:bE (((dL dj m a.Hop).getD (0:Int))-n)=dN m a.Hop-n:=by
   show bE (dN m a.Hop-n)=_;exact g4 (by omega) (by omega)
  have hj:∀h,dN (gq dj m a.Hop (dN m a.Hop-n)) h=if h=a.Hop then dN m a.Hop-n else dN m h:=λh=>by
   unfold dN;rw[DI];split<;>simp
  refine Ok.hU (D.some aI) ?_;rw[cond_true,aA];refine fu _ ⟨?_,⟨Ew D.nd _ _,λh=>?_,λh v hk=>?_⟩,λh=>?_⟩
  ·have:=hj a.Hop;rw[if_pos rfl]at this;show decide (0≤dN (gq dj m a.Hop (dN m a.Hop-n)) a.Hop)=true;rw[this,decide_eq_true];omega
  ·rw[wz,D.key];exact⟨λct=>ct.elim (λe=>⟨a,aI,e.symm⟩) id,.inr⟩
  ·rw[DI]at hk;split at hk
   ·cases hk;omega
   ·exact D.val h v hk
  ·simp only;rw[hj];by_cases he:h=a.Hop
   ·subst he;rw[if_pos rfl,if_pos (by simp)];omega
   ·rw[if_neg he,aj h];by_cases aK:h∈pre
    ·rw[if_pos aK,if_pos (by simp[aK])]
    ·rw[if_neg aK,if_neg (by simp[aK,he])]
 ·rintro⟨f,m⟩ h;exact Ok.s h
def zT(g:bu)(r:fA)(d:bY)(t:bR)(r':fA):Prop:=
 (∃Z c,t=bR.mk d.cc Z∧rX (hF g r d.de) d.cc d.dM Z c∧p3 r t d.de=some (true,r'))∨(t=bR.mk 0 []∧(¬∀x,x∈d.dM→e9 fv (hF g r d.de) d.cc x)∧r'=r)
inductive mU(g:bu):List bY→List bR→fA→Prop
 |nil:mU g [] [] (wu g)
 |snoc {ds:Bk} {out:Bt} {r r':fA} {d:bY} {t:bR} (h:mU g ds out r) (Z:zT g r d t r'):mU g (ds++[d]) (out++[t]) r'
variable {a8:yO}{ts:cN}
def adI(dZ:pR a8){root:Int}{c:Int}(h:rX a8 root ts Z c):Z.Nodup∧∀x∈Z,∃a∈a8,a.Hop=x:=by
 refine⟨h.mB.imp λ{a b} cq e=>?_,λx u=>?_⟩
 ·subst e;simp[gD]at cq
 ·obtain⟨⟨gu,h4,_,aK⟩,_⟩:=h;obtain⟨a,aI,rfl⟩:=List.mem_map.1 (aK.mem_iff.1 u);exact⟨a,h4.sub a aI,rfl⟩
def Tr(ai:iq g)(aC:mZ g r){d:bY}(aa:oj g d){root:Int}{c:Int}(h:rX (hF g r d.de) root d.dM Z c):
  Ok (p3 r (bR.mk d.cc Z) d.de) λp=>p.1=true∧mZ g p.2∧∀h,dN p.2 h=dN r h-if h∈Z then d.de else 0:=by
 obtain⟨h1,D⟩:=adI (Bo ai r d.de) h;refine aeC aC aa.iN h1 λx u=>?_;obtain⟨a,aI,rfl⟩:=D x u;have:=Bi.1 aI;exact⟨⟨a,this.1,rfl⟩,this.2⟩
def zT.ok(ai:iq g){r':fA}{d:bY}{t:bR}(h:zT g r d t r')(aC:mZ g r)(aa:oj g d):mZ g r':=by
 rcases h with⟨Z,c,rfl,Y,bU⟩|⟨_,_,rfl⟩
 ·obtain⟨p,h1,_,aj,_⟩:=Tr ai aC aa Y;rw[bU]at h1;cases h1
  exact aj
 ·exact aC
def mU.ok{g:bu}(ai:iq g){ds:Bk}{out:Bt}{r:fA}(h:mU g ds out r)(aa:∀d∈ds,oj g d):mZ g r:=by
 induction h with
 |nil=>exact Lo ai
 |snoc h Z bX=>exact Z.ok ai (bX λd eC=>aa d (by simp[eC])) (aa _ (by simp))
def mU.len{out:Bt}(h:mU g ds out r):out.length=ds.length:=by
 induction h with
 |nil=>rfl
 |snoc h Z bX=>simp[bX]
def mU.at{g:bu}{ds:Bk}{out:Bt}{r:fA}(h:mU g ds out r):∀{i:Nat} {d:bY} {t:bR},ds[i]?=some d→out[i]?=some t→∃sZ r',mU g (ds.take i) (out.take i) sZ∧zT g sZ d t r':=by
 induction h with
 |nil=>intro i d t h;simp at h
 |@snoc ds out r r' d0 t0 h Z bX=>
  intro i d t h1 D;have aP:=h.len;by_cases hi:i<ds.length
  ·rw[List.getElem?_append_left hi]at h1;rw[List.getElem?_append_left (by omega)]at D;obtain⟨sZ,aqt,cZ,c8⟩:=bX h1 D;exact⟨sZ,aqt,by rw[take_append_of_le_length (by omega),take_append_of_le_length (by omega)];exact cZ,c8⟩
  ·obtain rfl:i=ds.length:=by
    have:=(List.getElem?_eq_some_iff.1 h1).1;simp at this;omega
   simp at h1;rw[←aP]at D;simp at D;subst h1;subst D
   refine⟨r,r',?_,Z⟩;rw[take_left,←aP,take_left];exact h
variable {β:Type}{b:β}
def VT{root:Int}{K:(Es×Int×Bool)→Option β}(dZ:pR a8)(aP:ts.length≤6)(gE:∀x,x4 a8 root ts x→Ok (K x) (λy=>y=b)):Ok (CY a8 root ts K) (λy=>y=b):=by
 refine⟨b,?_,rfl⟩;unfold CY;rw[if_pos ⟨dZ,aP⟩];refine agK ?_ λx u=>Ok.eq (gE x u);by_cases ah:∀t,t∈ts→e9 fv a8 root t
 ·obtain⟨Z,c,Y⟩:=Ul dZ ah;exact⟨(Z,c,true),.inl ⟨rfl,Y⟩⟩
 ·exact⟨([],0,false),.inr ⟨rfl,ah⟩⟩
def Um{a b:yO}(h:a.Perm b){root:Int}{x:Es×Int×Bool}(u:x4 a root ts x):x4 b root ts x:=by
 rcases u with⟨h1,D⟩|⟨h1,D⟩
 ·exact .inl ⟨h1,adD h D⟩
 ·exact .inr ⟨h1,λct=>D λt bU=>(ct t bU).mono λa aI=>h.mem_iff.2 aI⟩
def Ts(ai:iq g)(aa:∀d∈ds,oj g d)(aP:ds.length≤12){K:(Bt×Int)→Option β}(gE:∀out r,mU g ds out r→K (out,0)=some b):ym g ds K=some b:=by
 unfold ym;rw[RS ai aa aP,bC,decide_eq_true rfl,Bool.not_true,cond_false,KZ,bC];refine Ok.eq (Ok.hU (by simp;omega) ?_);refine axF (λpre (af:Bt×fA)=>∃out,af.1=out++List.replicate (ds.length-pre.length) (bR.mk 0 [])∧mU g pre out af.2) ?_ _ ⟨[],by simp,.nil⟩ ?_
 ·rintro pre d c2 ⟨o,m⟩ bM fQ ⟨out,h1,D⟩ fu;simp only at h1 D fu ⊢;subst h1;have m6:=aa d (by rw[fQ];simp);have hm:=D.ok ai λd eC=>aa d (by rw[fQ];simp[eC]);have eH:=D.len;have be:ds.length=pre.length+1+c2.length:=by rw[fQ];simp;omega
  have jx:List.replicate (ds.length-pre.length) (bR.mk 0 [])=bR.mk 0 []::List.replicate (ds.length-(pre++[d]).length) (bR.mk 0 []):=by
   rw[length_append,length_singleton,←List.replicate_succ];congr 1;omega
  obtain⟨q,cA,aK⟩:=ND ai m d.de;simp only[jn,cA,bC];refine VT (M2 aK (Bo ai m d.de)) m6.len λx u=>?_;have u:=Um aK u;obtain⟨Z,c,ok⟩:=x;rcases u with⟨e,Y⟩|⟨e,be⟩
  ·simp only at e Y;subst e;obtain⟨p,cZ,c8,h3,nE⟩:=Tr ai hm m6 Y;obtain⟨f,l4⟩:=p;simp only at c8 h3 nE;subst c8;have cq:pre.length<(out++List.replicate (ds.length-pre.length) (bR.mk 0 [])).length:=by simp;omega
   obtain⟨t0,e1,_⟩:=nF (l:=out++List.replicate (ds.length-pre.length) (bR.mk 0 [])) (i:=(pre.length:Int)) (by omega) (by omega);have e2:oh (out++List.replicate (ds.length-pre.length) (bR.mk 0 [])) (pre.length:Int) (bR.mk d.cc Z)=some ((out++[bR.mk d.cc Z])++List.replicate (ds.length-(pre++[d]).length) (bR.mk 0 [])):=by
    obtain⟨w,vB,Cp,_⟩:=y7 (l:=out++List.replicate (ds.length-pre.length) (bR.mk 0 [])) (i:=(pre.length:Int)) (x:=bR.mk d.cc Z) (by omega) (by omega);rw[vB,Cp,jx,Int.toNat_natCast,←eH,List.set_append_right _ _ (Nat.le_refl _)];simp
   have bT:b2 ((out++[bR.mk d.cc Z])++List.replicate (ds.length-(pre++[d]).length) (bR.mk 0 [])) (pre.length:Int)=some (bR.mk d.cc Z):=by
    rw[←eH,List.append_assoc];exact UC _ _ _
   simp only[cond_true,e1,e2,bT,cZ,bC];exact fu _ ⟨out++[bR.mk d.cc Z],rfl,.snoc D (.inl ⟨Z,c,rfl,Y,cZ⟩)⟩
  ·injection e with e1 e2
   injection e2 with e2 bT
   subst e1;subst e2;subst bT
   simp only[cond_false];exact fu _ ⟨out++[bR.mk 0 []],by simp only;rw[jx,List.append_assoc];rfl,.snoc D (.inr ⟨rfl,be,rfl⟩)⟩
 ·rintro⟨o,m⟩ ⟨out,h1,D⟩;simp only at h1 D ⊢;rw[Nat.sub_self,List.replicate_zero,append_nil]at h1;subst h1;exact⟨b,gE _ _ D,rfl⟩
end
section
variable {g:bu}
def ace{t:eo}{n:Int}(h:kp t)(bQ:1≤g.cn.length∧g.cn.length≤1000)(be:0≤n∧n≤1000):Ok (Gx t g n) (λp=>((∀d∈p.1,oj g d)∧(p.1.length:Int)≤n)∧kp p.2):=by
 unfold Gx;rw[g4 (by omega) (by omega)];refine Ok.aB (sp h (by omega)) λq cA=>?_;have PN:=cA.1.2.1 (by omega);refine axH (λaf:Bk×Int×cN×Int=>((∀d∈af.1,oj g d)∧(af.1.length:Int)+af.2.1≤n∧0≤af.2.1)∧kp (eo.mk af.2.2.1 af.2.2.2)) (λaf=>af.2.1.toNat) ⟨⟨by simp,by simp;omega,cA.1.1⟩,cA.2⟩ (by simp only;omega) ?_;rintro⟨out,i,L,A⟩ bM ⟨⟨h1,aj,aV⟩,b4⟩ fu;simp only at h1 aj aV;refine axw (λah=>?_) λah=>Ok.s ⟨⟨h1,by simp only;omega⟩,b4⟩;simp only[decide_eq_true_eq]at ah;refine aaU b4 bQ λp r aK aC Jr=>?_;refine Ok.aB (aes (g:=g) aK bQ.2 (by omega)) λl aP=>?_;obtain⟨l,t2⟩:=l;obtain⟨⟨iw,hx,Qo⟩,AJ⟩:=aP;simp only at iw hx Qo AJ ⊢;refine Ok.aB (y9 AJ (by simp) (by simp)) λk hk=>?_;obtain⟨Fy,sx⟩:=hk;simp only[mem_cons,not_mem_nil,or_false]at Fy;rw[oy (by simp;omega),bC,g4 (by omega) (by omega)];refine fu _ ⟨⟨λd aa=>?_,by simp;omega,by simp only;omega⟩,sx⟩ (by simp only;omega);rcases List.mem_append.1 aa with aa|aa
 ·exact h1 d aa
 ·rw[List.mem_singleton]at aa;subst aa
  exact⟨Jr,iw,hx,by simp only;omega,by simp only;omega⟩
def Qq(p:aQ×Int):bB:=bB.mk p.1.bh p.1.aS p.2
def tZ(r:fA):xe:=r.map Qq
def hD(x:bB):aQ:=aQ.mk x.bh x.aS
variable {r:fA}
def Me(aC:mZ g r):r.length≤2*g.Links.length:=by
 have:=vX (b:=(jW g).map (·.Hop)) aC.nd λx u=>by
  obtain⟨a,aI,rfl⟩:=(aC.key x).1 u;exact List.mem_map.2 ⟨a,aI,rfl⟩
 simpa [Bh]using this
def adg(ai:iq g)(aC:mZ g r):∃l,wU r=some l∧l.Perm (tZ r):=by
 have h1:=Me aC;have D:=ai.nl;unfold wU;rw[if_pos (by omega)]
 obtain⟨m,cZ,c8,_⟩:=K8 (ks:=[λx:bB=>x.bh,λx:bB=>x.aS]) (l:=tZ r) (by
  unfold tZ;rw[pairwise_map];exact(pairwise_map.1 aC.nd).imp λ{a b} h=>Nc h) (by simp[tZ];omega)
 exact⟨m,cZ,c8⟩
def Nf(h:aQ):∀(ls:xe) (m:fA),dL dj (ls.foldl (λm x=>gq dj m (aQ.mk x.bh x.aS) x.Count) m) h=((ls.reverse.find? λx=>decide (hD x=h)).map (·.Count)).or (dL dj m h)
 |[],m=>by simp
 |x::r,m=>by
  rw[foldl_cons,Nf h r,DI,reverse_cons,List.find?_append];cases bc:r.reverse.find? λx=>decide (hD x=h)with
  |some y=>simp
  |none=>
   simp only[Option.map_none,Option.none_or,find?_cons,find?_nil];by_cases he:h=aQ.mk x.bh x.aS
   ·rw[if_pos he,decide_eq_true (show hD x=h from he.symm)];rfl
   ·rw[if_neg he,decide_eq_false (show ¬hD x=h from λe=>he e.symm)];rfl
variable {l:xe}
def adh(fH:(r.map (·.1)).Nodup)(aK:l.Perm (tZ r))(h:aQ):dL dj (qc l) h=dL dj r h:=by
 have vL:∀x,x∈l↔(hD x,x.Count)∈r:=λx=>by
  rw[aK.mem_iff];constructor
  ·intro u;obtain⟨p,aK,rfl⟩:=List.mem_map.1 u;exact aK
  ·intro u;exact List.mem_map.2 ⟨_,u,rfl⟩
 unfold qc;rw[Nf,List.reverse_reverse];have e0:dL dj ([]:fA) h=none:=rfl;rw[e0,Option.or_none];cases bc:l.find? λx=>decide (hD x=h)with
 |some x=>
  have h1:=List.find?_some bc;simp only[decide_eq_true_eq]at h1;subst h1;exact(D9 fH ((vL x).1 (List.mem_of_find?_eq_some bc))).symm
 |none=>
  simp only[Option.map_none];symm;rw[LP];intro hk;obtain⟨p,aK,rfl⟩:=List.mem_map.1 hk;have:=List.find?_eq_none.1 bc (Qq p) ((vL _).2 aK);simp[hD,Qq]at this
def ack(fH:(r.map (·.1)).Nodup)(aK:l.Perm (tZ r))(n:Int):hF g (qc l) n=hF g r n:=by
 have:∀h,dN (qc l) h=dN r h:=λh=>by unfold dN;rw[adh fH aK]
 unfold hF;simp only[this]
def Tt{α σ β:Type}{B:Int→α→(σ→Option β)→σ→Option β}(x:α):∀(l:List α) (j:Nat) (K:σ→Option β) (s:σ),cK (l++[x]) j B K s=cK l j B (λeF=>B ((j+l.length:Nat):Int) x K eF) s
 |[],j,K,s=>rfl
 |y::r,j,K,s=>by
  simp only[cons_append,cK];congr 1;funext eF;rw[Tt x r (j+1) K eF];congr 1;funext e8;rw[show j+1+r.length=j+(y::r).length by simp;omega]
variable {ds es:Bk}{out:Bt}
def ags{β:Type}(ai:iq g)(aa:∀d∈ds,oj g d){B:Int→bR→(fA→Option β)→fA→Option β}
  (fq:∀(j:Nat) d t r r' bM,ds[j]?=some d→zT g r d t r'→mZ g r→oj g d→B (j:Int) t bM r=bM r')    (h:mU g es out r):es <+: ds→∀K,cK out 0 B K (wu g)=K r:=by
 induction h with
 |nil=>intro _ K;rfl
 |@snoc es out r r' d t h Z bX=>
  intro aK K;obtain⟨it,bc⟩:=aK;rw[Tt,bX ⟨d::it,by rw[←bc];simp⟩,Nat.zero_add,h.len];refine fq _ d t r r' K (by rw[←bc];simp) Z (h.ok ai λd eC=>aa d (by rw[←bc];simp[eC])) (aa d (by rw[←bc];simp))
def Ng{α:Type}{l:List α}{j:Nat}{x:α}(h:l[j]?=some x):b2 l (j:Int)=some x:=by unfold b2;rw[if_pos (by omega),Int.toNat_natCast];exact h
def Lp(x:bR):yj x=some (decide (x.cc=0)&&decide (x.Links.length=0)):=by
 unfold yj;rw[show decide ((x.Links.length:Int)=0)=decide (x.Links.length=0)by rw[Bool.eq_iff_iff];simp]
def RT(r:fA)(root n:Int):p3 r (bR.mk root []) n=some (true,r):=rfl
def aeD(ai:iq g)(aa:∀d∈ds,oj g d)(aP:ds.length≤12)(h:mU g es out r)(aK:es <+: ds):∃l,vz g ds out=some (l,0)∧l.Perm (tZ r):=by
 have hle:=aK.length_le;have eH:=h.len;obtain⟨l,h1,D⟩:=adg ai (h.ok ai λd eC=>aa d (aK.subset eC));refine⟨l,?_,D⟩;unfold vz;rw[RS ai aa aP,bC,decide_eq_true rfl,Bool.not_true,cond_false,decide_eq_false (by omega),cond_false,KZ,bC];refine(ags ai aa (λj d t r r' bM aY Z aC m6=>?_) h aK _).trans ?_
 ·simp only[Ng aY,Lp,bC,jn];rcases Z with⟨Z,c,rfl,Y,bU⟩|⟨rfl,be,rfl⟩
  ·have avw:=(DF ai m6.root).1;have eH:=TU (Bo ai r d.de) Y
   rw[decide_eq_false (by simp only;omega),Bool.false_and,Bool.not_false,cond_true,KE _ _ _ (by simp only;omega) (by simp),bC,
    agq ai (λa aI=>(Bi.1 aI).1) m6.root Y Pairwise.nil (λx u=>by cases u) (λx u=>by cases u),decide_eq_true rfl,Bool.not_true,cond_false,bU,bC]
   rfl
  ·simp only[RT,bC,length_nil,decide_true,Bool.and_self,Bool.not_true,cond_false]
 ·rw[h1,bC]
def Tu(ai:iq g)(r:fA)(d:bY):∃l,An g r d=some (l,d.dM.all λx=>decide (x∈l))∧l.Pairwise (·<·)∧∀x,x∈l↔e9 fv (hF g r d.de) d.cc x:=by
 obtain⟨q,cA,aK⟩:=ND ai r d.de;have dZ:=M2 aK (Bo ai r d.de);obtain⟨l,h1,D,aj⟩:=y2 dZ.len d.cc;have eH:l.length≤1000000:=by
  have:=vX (b:=d.cc::q.map (·.Hop.aS)) (D.imp λh=>by omega) λx u=>by
   rcases LQ ((aj x).1 u)with rfl|⟨a,aI,rfl⟩
   ·simp
   ·exact mem_cons_of_mem _ (List.mem_map.2 ⟨a,aI,rfl⟩)
  have:=dZ.len;simp at *;omega
 refine⟨l,?_,D,λx=>by rw[aj];exact⟨λh=>h.mono λa aI=>aK.mem_iff.1 aI,λh=>h.mono λa aI=>aK.mem_iff.2 aI⟩⟩;unfold An;rw[cA,bC,h1,bC]
 refine(mh (λx=>!decide (x∈l)) (some (l,false)) (λj x bM s=>by
  obtain⟨i,hi⟩:=aiY eH D x;rw[hi,bC]) _ _ _).trans ?_
 have e:(d.dM.any λx=>!decide (x∈l))=!(d.dM.all λx=>decide (x∈l)):=by
  rw[List.any_eq_not_all_not];simp
 rw[e];cases d.dM.all λx=>decide (x∈l)<;>rfl
def acf(ai:iq g)(aC:mZ g r)(aK:l.Perm (tZ r)){d:bY}(aa:oj g d)(be:¬∀x,x∈d.dM→e9 fv (hF g r d.de) d.cc x):
  ∃w,wV g l d=some (w,0)∧w.Pairwise (·<·)∧∀x,x∈w↔e9 fv (hF g r d.de) d.cc x:=by
 obtain⟨w,h1,D,aj⟩:=Tu ai (qc l) d;rw[ack aC.nd aK]at aj;refine⟨w,?_,D,aj⟩;have eH:=aK.length_eq;have:=Me aC;have:=ai.nl;unfold wV CZ;rw[RS ai (λx u=>by rw[List.mem_singleton]at u;subst u;exact aa) (by simp),bC,decide_eq_true rfl,Bool.not_true,cond_false,if_pos (by rw[eH];simp[tZ];omega),bC,h1,bC]
 have e:(d.dM.all λx=>decide (x∈w))=false:=by
  cases h:d.dM.all λx=>decide (x∈w)with
  |false=>rfl
  |true=>
   rw[List.all_eq_true]at h;exact absurd (λx u=>(aj x).1 (by simpa using h x u)) be
 simp only[e,cond_false]
end
section
variable {g:bu}{out:Bt}{r:fA}
def ayb{ds:Bk}{d:bY}(h:mU g (ds++[d]) out r):∃o t r',out=o++[t]∧mU g ds o r'∧zT g r' d t r:=by
 generalize he:ds++[d]=l at h;cases h with
 |nil=>simp at he
 |snoc h Z=>
  obtain⟨h1,D⟩:=List.append_inj' he rfl;cases D;subst h1;exact⟨_,_,_,rfl,h,Z⟩
def mU.apK(h:mU g [] out r):out=[]∧r=wu g:=by
 generalize he:([]:Bk)=l at h;cases h with
 |nil=>exact⟨rfl,rfl⟩
 |snoc h Z=>simp at he
def TV{a8:yO}(dZ:∀b∈a8,1≤b.hM){a:bW}(aI:a∈a8)(ah:a.hM=1)(cF:∀b∈a8,b.Hop.aS=a.Hop.aS→b=a)(di:a.Hop.aS≠a.Hop.bh){Z:Es}{c:Int}(h:rX a8 a.Hop.bh [a.Hop.aS] Z c):Z=[a.Hop]:=by
 obtain⟨⟨gu,h4,_,aK⟩,_⟩:=h;have h1:=h4.qu a.Hop.aS (by simp);have gi:a∈gu:=by
  rcases LQ h1 with e|⟨b,Y,e⟩
  ·exact absurd e di
  ·exact cF b (h4.sub b Y) e▸Y
 have D:=h4.min [a] (by intro x u;rw[List.mem_singleton]at u;subst u;exact aI) (by intro t bU;rw[List.mem_singleton]at bU;subst bU;exact e9.one (N:=fv) (by simp));have e:hu fv [a]=1:=by simp[hu,fv,ah]
 have aj:∀l:yO,(∀b∈l,b∈a8)→(l.length:Int)≤hu fv l:=λl=>by
  induction l with
  |nil=>intro _;simp[hu]
  |cons b r bX=>
   intro aP;have:=bX λx u=>aP x (by simp[u]);have Y:=dZ b (aP b (by simp));rw[rj,length_cons];have:fv.cost b=b.hM:=rfl;omega
 have aV:=aj gu h4.sub;have b4:gu.length=1:=by
  have:=length_pos_of_mem gi;omega
 obtain⟨b,rfl⟩:=length_eq_one_iff.1 b4;rw[List.mem_singleton]at gi;subst gi;exact perm_singleton.1 aK
def pV:bu:=bu.mk [(fe.mk 1 true),(fe.mk 2 true)] [(dJ.mk 1 2 1 1 5)]
def agt:C6=some pV:=rfl
def LR:iq pV:=qH.1 (by kernel_rfl)
def L7:bW:=⟨⟨1,2⟩,1⟩
def vq:bW:=⟨⟨2,1⟩,1⟩
def yZ:fA:=[(⟨1,2⟩,2),(⟨2,1⟩,5)]
def acm:hF pV (wu pV) 3=[L7,vq]:=by kernel_rfl
def RI:hF pV yZ 3=[vq]:=by kernel_rfl
def acS:hF pV yZ 4=[vq]:=by kernel_rfl
def Un:¬∀x,x∈[(2:Int)]→e9 fv [vq] 1 x:=λh=>by
 rcases LQ (h 2 (by simp))with e|⟨b,Y,e⟩
 ·cases e
 ·rw[List.mem_singleton]at Y;subst Y;cases e
def zw:Bk:=[(bY.mk (1:Int) ([(2:Int)]:cN) (3:Int)),(bY.mk (1:Int) ([(2:Int)]:cN) (3:Int)),(bY.mk (2:Int) ([(1:Int)]:cN) (4:Int))]
def Lq:∀d∈zw,oj pV d:=by
 intro d aa;simp only[zw,mem_cons,not_mem_nil,or_false]at aa;rcases aa with rfl|rfl|rfl<;>exact⟨by decide,by simp,by simp[ids,pV],by simp,by simp⟩
def Uo:C3=some true:=by
 unfold C3;simp only[agt,bC];refine Ts LR Lq (by decide) λout r h=>?_
 have ah:∀{iG hW:fA} {t:bR} {d:bY} {ts:yO},hF pV iG d.de=ts→(∀x,x∈d.dM→e9 fv ts d.cc x)→zT pV iG d t hW→∃Z c,t=bR.mk d.cc Z∧rX ts d.cc d.dM Z c∧p3 iG t d.de=some (true,hW):=λe ah Z=>by
  subst e;rcases Z with h|⟨_,h,_⟩
  ·exact h
  ·exact absurd ah h
 obtain⟨o,t3,hW,rfl,h,s3⟩:=ayb (ds:=[(bY.mk (1:Int) ([(2:Int)]:cN) (3:Int)),(bY.mk (1:Int) ([(2:Int)]:cN) (3:Int))]) h;obtain⟨o,t2,iG,rfl,h,e8⟩:=ayb (ds:=[(bY.mk (1:Int) ([(2:Int)]:cN) (3:Int))]) h;have qa:=h;obtain⟨o,t1,xF,rfl,h,s1⟩:=ayb (ds:=[]) h;obtain⟨rfl,rfl⟩:=h.apK;obtain⟨Z,c,rfl,Y,bU⟩:=ah acm (by intro x u;rw[List.mem_singleton]at u;subst u;exact e9.one (N:=fv) (a:=L7) (by simp)) s1;have e1:Z=[⟨1,2⟩]:=TV (a:=L7) (by decide) (by simp) rfl (by intro b Y h;simp only[mem_cons,not_mem_nil,or_false]at Y;rcases Y with rfl|rfl;rfl;cases h) (by decide) Y;subst e1;have e1:iG=yZ:=by
  have e:p3 (wu pV) (bR.mk 1 [⟨1,2⟩]) 3=some (true,yZ):=by kernel_rfl
  rw[e]at bU;cases bU;rfl
 subst e1;have e8:t2=bR.mk 0 []∧hW=yZ:=by
  rcases e8 with⟨Z,c,_,Y,_⟩|⟨h1,_,aj⟩
  ·obtain⟨⟨gu,h4,_,_⟩,_⟩:=Y;have Y:=h4.qu;exact absurd (λx u=>(Y x u).mono λa aI=>by have:=h4.sub a aI;rwa [show hF pV yZ _=[vq]from RI]at this) Un
  ·exact⟨h1,aj⟩
 obtain⟨rfl,rfl⟩:=e8;obtain⟨Z,c,rfl,Y,bU⟩:=ah acS (by intro x u;rw[List.mem_singleton]at u;subst u;exact e9.one (N:=fv) (a:=vq) (by simp)) s3;have e1:Z=[⟨2,1⟩]:=TV (a:=vq) (by decide) (by simp) rfl (by intro b Y h;rw[List.mem_singleton]at Y;exact Y) (by decide) Y;subst e1;obtain⟨l,aP,w9⟩:=aeD LR Lq (by decide) qa ⟨_,rfl⟩;obtain⟨w,aA,ng,aps⟩:=acf LR (qa.ok LR λd aa=>Lq d (by simp at aa;simp[aa,zw])) w9 (Lq (bY.mk (1:Int) ([(2:Int)]:cN) (3:Int)) (by simp[zw])) (by rw[show hF pV yZ _=[vq]from RI];exact Un);have am6:w=[1]:=by
  refine KY ng (by simp) λx=>?_;rw[aps,show hF pV yZ _=[vq]from RI,List.mem_singleton];constructor
  ·intro h;have:=Sz h (l:=[1]) (by intro a aI bc;rw[List.mem_singleton]at aI;subst aI;simp[vq]at bc) (by simp);simpa using this
  ·rintro rfl;exact .refl _
 subst am6;have bA:nk [bR.mk 1 [⟨1,2⟩],bR.mk 0 [],bR.mk 2 [⟨2,1⟩]] (0:Int) (1:Int)=some [bR.mk 1 [⟨1,2⟩]]:=by kernel_rfl
 have aP:vz pV zw [bR.mk 1 [⟨1,2⟩]]=some (l,0):=aP;have h1:b2 zw (1:Int)=some (bY.mk (1:Int) ([(2:Int)]:cN) (3:Int)):=by kernel_rfl
 show(bif (!decide ((0:Int)=0))||(!decide ((3:Int)=3))then some false else aB (nk [bR.mk 1 [⟨1,2⟩],bR.mk 0 [],bR.mk 2 [⟨2,1⟩]] (0:Int) (1:Int)) λ(dk:Bt)=>aB (vz pV zw dk) λeg=>aB (b2 zw (1:Int)) λcr=>aB (wV pV eg.1 cr) _)=_;rw[bA,bC,aP,bC,h1,bC,aA,bC,Vd];rfl
end
section
def oa(h k:aQ):Prop:=h.bh<k.bh∨(h.bh=k.bh∧h.aS<k.aS)
variable {h:aQ}
def A8:¬oa h h:=by unfold oa;omega
variable {a b:aQ}
def aaZ{c:aQ}(h1:oa a b)(D:oa b c):oa a c:=by unfold oa at *;omega
def aec(h1:¬oa a b)(D:a≠b):oa b a:=by
 cases a;cases b
 simp only[oa,ne_eq,aQ.mk.injEq]at *;omega
structure kH(K:aQ→Prop)(f:aQ→Int)(l:List bB):Prop where
 mB:l.Pairwise λa b=>oa (hD a) (hD b)
 mem:∀x,x∈l↔K (hD x)∧x.Count=f (hD x)
 zero:∀h,¬K h→f h=0
variable {K:aQ→Prop}{f:aQ→Int}{l:xe}
def kH.congr{kQ:aQ→Prop}{n0:aQ→Int}(h:kH K f l)(hk:∀h,K h↔kQ h)(bc:∀h,f h=n0 h):kH kQ n0 l:=
 ⟨h.mB,λx=>by rw[h.mem,hk,bc],λx u=>by rw[←bc];exact h.zero x (λct=>u ((hk x).1 ct))⟩
def TW{x y:bB}(h:hD x=hD y)(ah:x.Count=y.Count):x=y:=by
 cases x;cases y
 simp only[hD,aQ.mk.injEq]at h;simp only at ah;rw[h.1,h.2,ah]
def Nh(h:kH K f l)(aq v:Int):td l aq v=some (f (aQ.mk aq v)):=by
 have key:∀(l:xe) (j:Nat),cK l j (λ(au:Int) (e1:bB) (b3:Unit→kr) (af:Unit)=>match af with|()=>bif ((decide (e1.bh=aq))&&(decide (e1.aS=v)))then some e1.Count else b3 ()) (λ(af:Unit)=>match af with|()=>some (0:Int)) ()=some (((l.find? λx=>decide (hD x=aQ.mk aq v)).map (·.Count)).getD 0):=by
  intro l;induction l with
  |nil=>intro j;rfl
  |cons x r bX=>
   intro j;rw[cK,find?_cons];have e:(decide (x.bh=aq)&&decide (x.aS=v))=decide (hD x=aQ.mk aq v):=by
    rw[Bool.eq_iff_iff];simp[hD]
   rw[e];cases aa:decide (hD x=aQ.mk aq v)with
   |true=>rfl
   |false=>simp only[cond_false];exact bX (j+1)
 unfold td;refine(key l 0).trans ?_;cases bc:l.find? λx=>decide (hD x=aQ.mk aq v)with
 |some x=>
  have h1:=List.find?_some bc;simp only[decide_eq_true_eq]at h1;have:=((h.mem x).1 (List.mem_of_find?_eq_some bc)).2;rw[h1]at this;simp[this]
 |none=>
  simp only[Option.map_none,Option.getD_none];congr 1;symm;refine h.zero _ λhk=>?_;have:=List.find?_eq_none.1 bc (bB.mk aq v (f (aQ.mk aq v))) ((h.mem _).2 ⟨hk,rfl⟩);simp[hD]at this
def kH.put{p mid r:xe}{c:Int}(aP:kH K f (p++mid++r))(aK:∀y∈p,oa (hD y) h)(aC:∀y∈r,oa h (hD y))(hm:∀y∈mid,hD y=h):
  kH (λk=>K k∨k=h) (λk=>if k=h then c else f k) (p++bB.mk h.bh h.aS c::r):=by
 have qA:hD (bB.mk h.bh h.aS c)=h:=rfl
 have di:∀y,(y∈p∨y∈r)→hD y≠h:=λy ak e=>by
  rcases ak with ak|ak
  ·have:=aK y ak;rw[e]at this;exact A8 this
  ·have:=aC y ak;rw[e]at this;exact A8 this
 refine⟨?_,λx=>?_,λk hk=>?_⟩
 ·have aI:=aP.mB;rw[List.append_assoc,pairwise_append]at aI;obtain⟨g6,a2,a3⟩:=aI;rw[pairwise_append]at a2;rw[pairwise_append,pairwise_cons];refine⟨g6,⟨λy ak=>aC y ak,a2.2.1⟩,λx u y ak=>?_⟩;rcases mem_cons.1 ak with rfl|ak
  ·exact aK x u
  ·exact a3 x u y (List.mem_append_right _ ak)
 ·rw[List.mem_append,mem_cons];by_cases he:hD x=h
  ·simp only[he,or_true,if_true,true_and];constructor
   ·rintro(u|u|u)
    ·exact absurd he (di x (.inl u))
    ·rw[u]
    ·exact absurd he (di x (.inr u))
   ·intro ah;exact .inr (.inl (TW (by rw[he];rfl) ah))
  ·simp only[he,or_false,if_false];rw[←aP.mem,List.mem_append,List.mem_append];constructor
   ·rintro(u|rfl|u)
    ·exact .inl (.inl u)
    ·exact absurd qA he
    ·exact .inr u
   ·rintro((u|u)|u)
    ·exact .inl u
    ·exact absurd (hm x u) he
    ·exact .inr (.inr u)
 ·have Fy:k≠h:=λe=>hk (.inr e);simp only[if_neg Fy];exact aP.zero k λct=>hk (.inl ct)
def LS(h:kH K f l)(aP:l.length≤100000)(aq v n:Int)(Y : -1000000≤f (aQ.mk aq v)+n∧f (aQ.mk aq v)+n≤1000000):
  Ok (vT l aq v n) λm=>kH (λk=>K k∨k=aQ.mk aq v) (λk=>if k=aQ.mk aq v then f (aQ.mk aq v)+n else f k) m∧m.length≤l.length+1:=by
 unfold vT;refine axH (λk:Int=>∃i:Nat,k=i∧i≤l.length∧∀x∈l.take i,oa (hD x) (aQ.mk aq v)) (λk=>l.length-k.toNat) ⟨0,rfl,by omega,by simp⟩ (by omega) ?_;rintro k bM ⟨i,rfl,hi,cq⟩ fu;have qB:aQ.mk aq v=aQ.mk aq v:=rfl
 have fin:∀(mid r:xe),l=l.take i++mid++r→(∀y∈r,oa (aQ.mk aq v) (hD y))→(∀y∈mid,hD y=aQ.mk aq v)→kH (λk=>K k∨k=aQ.mk aq v) (λk=>if k=aQ.mk aq v then f (aQ.mk aq v)+n else f k) (l.take i++bB.mk aq v (f (aQ.mk aq v)+n)::r):=λmid r e aC hm=>
  kH.put (h:=aQ.mk aq v) (mid:=mid) (by rw[←e];exact h) cq aC hm
 have Z9:∀x r,l=l.take i++x::r→r.Pairwise (λa b=>oa (hD a) (hD b))∧∀y∈r,oa (hD x) (hD y):=λx r e=>by
  have:=h.mB;rw[e,pairwise_append,pairwise_cons]at this;exact⟨this.2.1.2,this.2.1.1⟩
 have Zs:∀r,l=l.take i++r→(∀y∈r,oa (aQ.mk aq v) (hD y))→Ok (aB (nk l (0:Int) (i:Int)) λ(kL:xe)=>aB (nk l (i:Int) (l.length:Int)) λ(pW:xe)=>aB (jf kL ([(bB.mk aq v n)]:xe)) λ(xg:xe)=>aB (jf xg pW) λ(kM:xe)=>some kM) λm=>kH (λk=>K k∨k=aQ.mk aq v) (λk=>if k=aQ.mk aq v then f (aQ.mk aq v)+n else f k) m∧m.length≤l.length+1:=λr e aC=>by
  obtain⟨m1,cZ,rfl,_⟩:=Bu (l:=l) (a:=0) (b:=(i:Int)) (by omega);obtain⟨m2,c8,rfl,_⟩:=Bu (l:=l) (a:=(i:Int)) (b:=(l.length:Int)) (by omega);rw[cZ,bC,c8,bC];simp only[Int.toNat_natCast,take_length,Int.toNat_zero,drop_zero];have aa:l.drop i=r:=by
   have:=congrArg (List.drop i) e;rw[drop_append_of_le_length (by simp;omega),drop_take]at this;simpa using this
  have eH:=congrArg List.length e;simp at eH;rw[oy (by simp;omega),bC,aa,oy (by simp;omega),bC];refine⟨_,rfl,?_,by simp;omega⟩
  have hz:f (aQ.mk aq v)=0:=h.zero _ λhk=>by
   have gi:=(h.mem (bB.mk aq v (f (aQ.mk aq v)))).2 ⟨hk,rfl⟩;rw[e]at gi;rcases List.mem_append.1 gi with gi|gi
   ·exact A8 (cq _ gi)
   ·exact A8 (aC _ gi)
  have:=fin [] r (by simpa using e) aC (λy ak=>by cases ak);rw[hz,Int.zero_add]at this;rw[List.append_assoc];simpa [hz]using this
 by_cases eH:i<l.length
 ·have sv:b2 l (i:Int)=some l[i]:=eM (List.getElem?_eq_getElem eH);have oZ:l=l.take i++l[i]::l.drop (i+1):=by simp
  obtain⟨t1,t2⟩:=Z9 _ _ oZ;have iY:bE ((i:Int)+1)=((i+1:Nat):Int):=by rw[g4 (by omega) (by omega)];rfl
  rw[decide_eq_true (by omega)];simp only[jn,cond_true,sv,bC,oy (l:=([]:xe)) (r:=l) (by simp;omega),nil_append];by_cases ah:oa (hD l[i]) (aQ.mk aq v)
  ·have YP:Ok (bM (bE ((i:Int)+1))) λm=>kH (λk=>K k∨k=aQ.mk aq v) (λk=>if k=aQ.mk aq v then f (aQ.mk aq v)+n else f k) m∧m.length≤l.length+1:=fu _ ⟨i+1,iY,by omega,λx u=>by
     rw[take_add_one,List.getElem?_eq_getElem eH]at u;rcases List.mem_append.1 u with u|u
     ·exact cq x u
     ·simp at u;subst u;exact ah⟩ (by rw[iY];omega)
   rcases ah with ah|⟨qy,n2⟩
   ·rw[decide_eq_true (show l[i].bh<aq from ah)];exact YP
   ·have qy:l[i].bh=aq:=qy;have n2:l[i].aS<v:=n2;rw[decide_eq_false (show ¬l[i].bh<aq by omega),decide_eq_true qy,decide_eq_true n2];exact YP
  ·have aok:∀A:Option (List bB),(Ok A λm=>kH (λk=>K k∨k=aQ.mk aq v) (λk=>if k=aQ.mk aq v then f (aQ.mk aq v)+n else f k) m∧m.length≤l.length+1)→∀B,Ok (bif decide (l[i].bh<aq)then B else(bif decide (l[i].bh=aq)then(bif decide (l[i].aS<v)then B else A)else A)) λm=>kH (λk=>K k∨k=aQ.mk aq v) (λk=>if k=aQ.mk aq v then f (aQ.mk aq v)+n else f k) m∧m.length≤l.length+1:=λA dZ B=>by
    have ah:¬(l[i].bh<aq∨(l[i].bh=aq∧l[i].aS<v)):=ah;rw[decide_eq_false (show ¬l[i].bh<aq by omega),cond_false];by_cases h1:l[i].bh=aq
    ·rw[decide_eq_true h1,decide_eq_false (show ¬l[i].aS<v by omega)];exact dZ
    ·rw[decide_eq_false h1];exact dZ
   refine aok _ ?_ _;by_cases he:hD l[i]=aQ.mk aq v
   ·have h1:l[i].bh=aq:=by have:=congrArg aQ.bh he;exact this
    have D:l[i].aS=v:=by have:=congrArg aQ.aS he;exact this
    have an8:l[i].Count=f (aQ.mk aq v):=by
     have:=((h.mem l[i]).1 (List.getElem_mem eH)).2
     rwa [he]at this
    rw[decide_eq_true h1,decide_eq_true D];simp only[cond_true,an8,g4 (n:=f (aQ.mk aq v)+n) (by omega) (by omega),h1,D];obtain⟨m,cZ,c8,h3⟩:=y7 (l:=l) (i:=(i:Int)) (x:=bB.mk aq v (f (aQ.mk aq v)+n)) (by omega) (by omega);rw[cZ,bC];refine⟨_,rfl,?_,by omega⟩;have:=fin [l[i]] (l.drop (i+1)) (by simp) (λy ak=>by have:=t2 y ak;rwa [he]at this) (λy ak=>by rw[List.mem_singleton]at ak;rw[ak,he]);rw[c8,Int.toNat_natCast,set_eq_take_append_cons_drop,if_pos eH];exact this
   ·have dZ:=Zs (l[i]::l.drop (i+1)) oZ (λy ak=>by
     have bA:=aec ah he;rcases mem_cons.1 ak with rfl|ak
     ·exact bA
     ·exact aaZ bA (t2 y ak))
    by_cases h1:l[i].bh=aq
    ·have D:¬l[i].aS=v:=λD=>he (by cases cA:l[i];rw[cA]at h1 D;simp only at h1 D;simp[hD,h1,D]);rw[decide_eq_true h1,decide_eq_false D];exact dZ
    ·rw[decide_eq_false h1];exact dZ
 ·obtain rfl:i=l.length:=by omega
  rw[decide_eq_false (by omega)];simp only[jn,cond_false,oy (l:=([]:xe)) (r:=l) (by simp;omega),nil_append,bC];exact Zs [] (by simp) (λy ak=>by cases ak)
end
section
def Ea(g:bu)(h:aQ):Prop:=∃a∈jW g,a.Hop=h
def oN(m:fA)(h:aQ):Prop:=h∈m.map (·.1)
variable {m:fA}
def Tv{h:aQ}(be:¬oN m h):dN m h=0:=by unfold dN;rw[LP.2 be];rfl
def Dl(m:fA)(n h:aQ)(v:Int):dN (gq dj m n v) h=if h=n then v else dN m h:=by
 unfold dN;rw[DI];split<;>rfl
variable {g:bu}{l:xe}
def kH.len{K:aQ→Prop}{f:aQ→Int}(h:kH K f l)(gE:∀x,K x→Ea g x):l.length≤2*g.Links.length:=by
 have fH:(l.map hD).Nodup:=by
  show Pairwise _ _;rw[pairwise_map];exact h.mB.imp λ{a b} cq (e:hD a=hD b)=>A8 (e▸cq)
 have:=vX (b:=(jW g).map (·.Hop)) fH λx u=>by
  obtain⟨y,ak,rfl⟩:=List.mem_map.1 u;obtain⟨a,aI,he⟩:=gE _ ((h.mem y).1 ak).1;exact List.mem_map.2 ⟨a,aI,he⟩
 simpa [Bh]using this
def ai0(ai:iq g){pre r:G5}{x:dJ}(fQ:g.Links=pre++x::r)(fD:BU pre m):¬oN m (aQ.mk x.A x.B)∧¬oN m (aQ.mk x.B x.A):=by
 have u:x∈g.Links:=by rw[fQ];simp
 have cq:=ai.lt x u;have vM:=ai.ER;rw[fQ,pairwise_append]at vM
 have pK:∀l∈pre,¬(x.A=l.A∧x.B=l.B)∧¬(x.A=l.B∧x.B=l.A):=λl aP=>by
  have h1:=vM.2.2 l aP x (by simp);have D:=ai.lt l (by rw[fQ];simp[aP]);simp only[mR,Bool.or_eq_true,Bool.and_eq_true,decide_eq_true_eq]at h1;omega
 have key:∀h,oN m h→∃l∈pre,h=aQ.mk l.A l.B∨h=aQ.mk l.B l.A:=λh hk=>by
  obtain⟨p,aK,rfl⟩:=List.mem_map.1 hk;obtain⟨l,h1,D,_⟩:=fD.get p.1 p.2 (D9 fD.nd aK);exact⟨l,h1,D⟩
 constructor
 ·intro hk;obtain⟨l,aP,h|h⟩:=key _ hk
  ·injection h with h1 D;exact(pK l aP).1 ⟨h1,D⟩
  ·injection h with h1 D;exact(pK l aP).2 ⟨h1,D⟩
 ·intro hk;obtain⟨l,aP,h|h⟩:=key _ hk
  ·injection h with h1 D;exact(pK l aP).2 ⟨D,h1⟩
  ·injection h with h1 D;exact(pK l aP).1 ⟨D,h1⟩
abbrev zS(g:bu)(r:fA)(l:xe):Prop:=kH (Ea g) (dN r) l
def TX(ai:iq g):Ok (C5 g) (zS g (wu g)):=by
 have kj:=ai.nl;unfold C5;refine axF (λpre (l:xe)=>kH (oN (pre.foldl uj [])) (dN (pre.foldl uj [])) l) ?_ _ ⟨Pairwise.nil,λx=>by simp[oN],λh _=>rfl⟩ ?_
 ·rintro pre x r l bM fQ h fu;have u:x∈g.Links:=by rw[fQ];simp
  have fD:BU pre (pre.foldl uj []):=by
   have:=Nd pre [] [] ⟨by simp,λh v hk=>by simp[dL]at hk,λl aP=>by cases aP⟩;simpa using this
  obtain⟨hy,fS⟩:=ai0 ai fQ fD;have cq:=ai.lt x u;have oA:=ai.Kj x u;simp only[qU,Bool.or_eq_false_iff,decide_eq_false_iff_not]at oA
  have anE:∀y,oN (pre.foldl uj []) y→Ea g y:=λy ak=>by
   obtain⟨p,aK,rfl⟩:=List.mem_map.1 ak;obtain⟨l,h1,D,_⟩:=fD.get p.1 p.2 (D9 fD.nd aK);have aP:l∈g.Links:=by rw[fQ];simp[h1]
   rcases D with D|D
   ·exact⟨_,u1.2 ⟨l,aP,.inl rfl⟩,D.symm⟩
   ·exact⟨_,u1.2 ⟨l,aP,.inr rfl⟩,D.symm⟩
  have eH:=h.len anE;have kG:=Tv hy;have l8:=Tv fS;obtain⟨iw,cZ,c8,h3⟩:=LS h (by omega) x.A x.B x.lS (by rw[kG];omega);have di:aQ.mk x.B x.A≠aQ.mk x.A x.B:=λe=>by injection e with e1 e2;omega
  obtain⟨hx,nE,vB,_⟩:=LS c8 (by omega) x.B x.A x.lS (by rw[if_neg di,l8];omega);rw[cZ,bC,nE,bC];refine fu _ (vB.congr (λk=>?_) λk=>?_)
  ·unfold oN;rw[List.foldl_append,foldl_cons,foldl_nil,uj,wz,wz];constructor
   ·rintro((h|h)|h)
    ·exact .inr (.inr h)
    ·exact .inr (.inl h)
    ·exact .inl h
   ·rintro(h|h|h)
    ·exact .inr h
    ·exact .inl (.inr h)
    ·exact .inl (.inl h)
  ·rw[List.foldl_append,foldl_cons,foldl_nil,uj,Dl,Dl,if_neg di,kG,l8];by_cases h1:k=aQ.mk x.B x.A
   ·rw[if_pos h1,if_pos h1];omega
   ·rw[if_neg h1,if_neg h1];by_cases D:k=aQ.mk x.A x.B
    ·rw[if_pos D,if_pos D];omega
    ·rw[if_neg D,if_neg D]
 ·intro l h;exact Ok.s (h.congr (λk=>(Lo ai).key k) λ_=>rfl)
def Lr(x:bR):AT x=some (decide (x.cc=0)&&decide (x.Links.length=0)):=by
 unfold AT;rw[show decide ((x.Links.length:Int)=0)=decide (x.Links.length=0)by rw[Bool.eq_iff_iff];simp]
def agu(a b:yO)(v:cN):l6 (a++b) v=l6 b (l6 a v):=by unfold l6;rw[List.foldl_append]
def TY(v:cN)(ai:v.length≤90000)(a:bW)(c:Bool){β:Type}(J:cN→Option β):
  (jn (λ(eL:Bool)=>bif eL then aB (uy v a.Hop.aS) λ(cu:(cN))=>J cu else J v) λkP=>aB (q7 v a.Hop.bh) λ(aJ:Bool)=>(bif aJ then kP c else kP false))=J (bif c then qW v a else v):=by
 simp only[jn,Cg,bC];unfold qW;by_cases h:a.Hop.bh∈v
 ·rw[decide_eq_true h,if_pos h];cases c
  ·rfl
  ·simp only[cond_true];rw[NB v a.Hop.aS (by omega),bC]
 ·rw[decide_eq_false h,if_neg h];cases c<;>rfl
variable {r:fA}
def aa0(ai:iq g)(aP:∀aq v,td l aq v=some (dN r (aQ.mk aq v)))(d:bY):AQ g l d=some (kN (hF g r d.de) g.cn.length [d.cc]):=by
 have kj:=ai.nl;have FG:=ai.A6;have rF:(hF g r d.de).length≤120:=by
  have:=length_filter_le (λa:bW=>decide (d.de≤dN r a.Hop)) (jW g);rw[Bh]at this;unfold hF;omega
 unfold AQ;refine Ok.eq (axF (λpre (v:cN)=>v=kN (hF g r d.de) pre.length [d.cc]∧v.length≤1+120*pre.length) ?_ _ ⟨rfl,by simp⟩ λv h=>Ok.s h.1);rintro pre x c2 v bM fQ ⟨P4,tG⟩ fu;have k7:=congrArg List.length fQ;simp at k7;refine axF (λq (w:cN)=>w=l6 ((q.flatMap kB).filter λa=>decide (d.de≤dN r a.Hop)) v) ?_ _ rfl ?_
 ·rintro q y t w b5 cA rfl hI;have FO:=M3 ((q.flatMap kB).filter λa=>decide (d.de≤dN r a.Hop)) v
  have avC:((q.flatMap kB).filter λa=>decide (d.de≤dN r a.Hop)).length≤120:=by
   have h1:=length_filter_le (λa:bW=>decide (d.de≤dN r a.Hop)) (q.flatMap kB);have D:(q.flatMap kB).length=2*q.length:=by
    clear h1 FO hI cA;induction q with
    |nil=>rfl
    |cons a q bX=>rw[flatMap_cons,length_append,bX];simp[kB];omega
   have aj:=congrArg List.length cA;simp at aj;omega
  have e1:=aP y.A y.B;have e2:=aP y.B y.A;generalize aA:l6 ((q.flatMap kB).filter λa=>decide (d.de≤dN r a.Hop)) v=w at FO ⊢;simp only[e1,e2,bC];have s1:=TY (β:=cN) w (by omega) (bW.mk (aQ.mk y.A y.B) y.ki) (decide (d.de≤dN r (aQ.mk y.A y.B)))
  have NJ:∀kZ:cN,kZ.length≤90000→(kZ=bif decide (d.de≤dN r (aQ.mk y.A y.B))then qW w (bW.mk (aQ.mk y.A y.B) y.ki)else w)→Ok (jn (λ(iz:Bool)=>bif iz then aB (uy kZ y.A) λ(dF:(cN))=>b5 dF else b5 kZ) λk0=>aB (q7 kZ y.B) λ(eg:Bool)=>(bif eg then k0 (decide (d.de≤dN r (aQ.mk y.B y.A)))else k0 false)) λx=>x=kN (hF g r d.de) g.cn.length [d.cc]:=λkZ ng he=>by
   rw[TY kZ ng (bW.mk (aQ.mk y.B y.A) y.lJ)];refine hI _ ?_;rw[List.flatMap_append,List.flatMap_singleton,List.filter_append,agu,aA,he];simp only[kB,filter_cons,filter_nil];cases decide (d.de≤dN r (aQ.mk y.A y.B))<;>cases decide (d.de≤dN r (aQ.mk y.B y.A))<;>rfl
  show Ok (jn (λ(wE:cN)=>_) λgv=>_) _;unfold jn;have Y:=TR w (bW.mk (aQ.mk y.A y.B) y.ki);have e8:=s1 (λkZ=>jn (λ(iz:Bool)=>bif iz then aB (uy kZ y.A) λ(dF:(cN))=>b5 dF else b5 kZ) λk0=>aB (q7 kZ y.B) λ(eg:Bool)=>(bif eg then k0 (decide (d.de≤dN r (aQ.mk y.B y.A)))else k0 false));refine(congrArg (λo=>Ok o λx=>x=kN (hF g r d.de) g.cn.length [d.cc]) e8).mpr (NJ _ ?_ rfl);cases decide (d.de≤dN r (aQ.mk y.A y.B))
  ·simp only[cond_false];omega
  ·simp only[cond_true];omega
 ·rintro w rfl;have oC:=M3 (hF g r d.de) v;refine fu _ ⟨?_,?_⟩
  ·rw[length_append,length_singleton];have al1:∀(n:Nat) (aq:cN),kN (hF g r d.de) (n+1) aq=l6 (hF g r d.de) (kN (hF g r d.de) n aq):=by
    intro n;induction n with
    |zero=>intro aq;rfl
    |succ n bX=>intro aq;exact bX (l6 (hF g r d.de) aq)
   rw[al1,←P4];rfl
  ·rw[length_append,length_singleton];have:l6 ((g.Links.flatMap kB).filter λa=>decide (d.de≤dN r a.Hop)) v=l6 (hF g r d.de) v:=rfl;rw[this];omega
def abW(ai:iq g)(aP:zS g r l){d:bY}(aa:oj g d):∃b,yo g l d=some b∧(b=true↔∀x,x∈d.dM→e9 fv (hF g r d.de) d.cc x):=by
 have yx:∀x,x∈kN (hF g r d.de) g.cn.length [d.cc]↔e9 fv (hF g r d.de) d.cc x:=λx=>
  SG (V:=ids g) aa.root (λa aI=>(DE ai (Bi.1 aI).1).2) (by simp[ids])
 refine⟨d.dM.all λx=>decide (x∈kN (hF g r d.de) g.cn.length [d.cc]),?_,?_⟩
 ·unfold yo;rw[aa0 ai (Nh aP),bC];refine(mh (λx=>!decide (x∈kN (hF g r d.de) g.cn.length [d.cc])) (some false) (λj x bM s=>by rw[Cg,bC]) _ _ _).trans ?_
  have e:(d.dM.any λx=>!decide (x∈kN (hF g r d.de) g.cn.length [d.cc]))=!(d.dM.all λx=>decide (x∈kN (hF g r d.de) g.cn.length [d.cc])):=by
   rw[List.any_eq_not_all_not];simp
  rw[e];cases d.dM.all λx=>decide (x∈kN (hF g r d.de) g.cn.length [d.cc])<;>rfl
 ·rw[List.all_eq_true];simp only[decide_eq_true_eq,yx]
end
section
def zr(g:bu)(m:fI)(x y:Int):fI:=m.set ((ids g).idxOf x) ((m.getD ((ids g).idxOf x) []).set ((ids g).idxOf y) 0)
def EP(g:bu)(r:fA)(n:Int)(S:yO)(aq v:Nat):Prop:=∃a∈S,¬n≤dN r a.Hop∧(ids g).idxOf a.Hop.bh=aq∧(ids g).idxOf a.Hop.aS=v
structure HV(g:bu)(r:fA)(n:Int)(J5:List (List Int))(S:List bW)(m:List (List Int)):Prop where
 len:m.length=(ids g).length
 row:∀aq,aq<(ids g).length→(m.getD aq []).length=(ids g).length
 shut:∀aq v,aq<(ids g).length→v<(ids g).length→EP g r n S aq v→jt m aq v=0
 same:∀aq v,aq<(ids g).length→v<(ids g).length→¬EP g r n S aq v→jt m aq v=jt J5 aq v
variable {g:bu}{m:fI}{r:fA}
def HV.step{n:Int}{J5:fI}{S:yO}(h:HV g r n J5 S m){a:bW}(h1:a.Hop.bh∈ids g)(D:a.Hop.aS∈ids g):
  HV g r n J5 (S++[a]) (if dN r a.Hop<n then zr g m a.Hop.bh a.Hop.aS else m):=by
 have qE:=List.idxOf_lt_length_of_mem h1;have tI:=List.idxOf_lt_length_of_mem D
 have FJ:∀aq v,EP g r n (S++[a]) aq v↔EP g r n S aq v∨(dN r a.Hop<n∧(ids g).idxOf a.Hop.bh=aq∧(ids g).idxOf a.Hop.aS=v):=λaq v=>by
  constructor
  ·rintro⟨b,Y,q⟩;rcases List.mem_append.1 Y with Y|Y
   ·exact .inl ⟨b,Y,q⟩
   ·rw[List.mem_singleton]at Y;subst Y
    exact .inr ⟨by omega,q.2⟩
  ·rintro(⟨b,Y,q⟩|⟨ay,aG⟩)
   ·exact⟨b,by simp[Y],q⟩
   ·exact⟨a,by simp,by omega,aG⟩
 by_cases ah:dN r a.Hop<n
 ·rw[if_pos ah];have he:=MK (c:=0) h.len h.row qE tI;refine⟨by unfold zr;rw[length_set];exact h.len,Mc h.len h.row qE,λaq v cF kU Z=>?_,λaq v cF kU Z=>?_⟩
  ·show jt (m.set _ _) aq v=0;rw[he];by_cases cA:aq=(ids g).idxOf a.Hop.bh∧v=(ids g).idxOf a.Hop.aS
   ·rw[if_pos cA]
   ·rw[if_neg cA];rcases(FJ aq v).1 Z with aj|⟨_,aj,aV⟩
    ·exact h.shut aq v cF kU aj
    ·exact absurd ⟨aj.symm,aV.symm⟩ cA
  ·show jt (m.set _ _) aq v=_;rw[he];have be:¬(aq=(ids g).idxOf a.Hop.bh∧v=(ids g).idxOf a.Hop.aS):=λcA=>Z ((FJ aq v).2 (.inr ⟨ah,cA.1.symm,cA.2.symm⟩));rw[if_neg be];exact h.same aq v cF kU λaj=>Z ((FJ aq v).2 (.inl aj))
 ·rw[if_neg ah];refine⟨h.len,h.row,λaq v cF kU Z=>?_,λaq v cF kU Z=>h.same aq v cF kU λaj=>Z ((FJ aq v).2 (.inl aj))⟩;rcases(FJ aq v).1 Z with aj|aj
  ·exact h.shut aq v cF kU aj
  ·exact absurd aj.1 ah
def U8{ix:cN}(j1:∀x∈ids g,b2 ix x=some ((ids g).idxOf x:Int))(aP:m.length=(ids g).length)(aC:∀aq,aq<(ids g).length→(m.getD aq []).length=(ids g).length){x y:Int}(u:x∈ids g)(ak:y∈ids g)(c n:Int){β:Type}(J:fI→Option β):
  (bif decide (c<n)then aB (b2 ix x) λ(cr:Int)=>aB (b2 m cr) λ(e6:cN)=>aB (b2 ix y) λ(ir:Int)=>aB (b2 e6 ir) λ(lR:Int)=>aB (oh e6 ir (0:Int)) λ(dk:cN)=>J (List.set m cr.toNat dk)else J m)=J (if c<n then zr g m x y else m):=by
 have qE:=List.idxOf_lt_length_of_mem u;have tI:=List.idxOf_lt_length_of_mem ak;by_cases ah:c<n
 ·rw[decide_eq_true ah,if_pos ah,cond_true,j1 x u,bC,lH [] (by omega),bC,j1 y ak,bC,lH 0 (by rw[aC _ qE];exact tI),bC];obtain⟨w,cZ,c8,_⟩:=y7 (l:=m.getD ((ids g).idxOf x) []) (i:=((ids g).idxOf y:Int)) (x:=0) (by omega) (by rw[aC _ qE];omega);rw[cZ,bC,c8,Int.toNat_natCast,Int.toNat_natCast];rfl
 ·rw[decide_eq_false ah,if_neg ah,cond_false]
def adi(ai:iq g){l:xe}(aP:zS g r l){d:bY}(aa:oj g d){Z:Es}{c:Int}(Y:rX (hF g r d.de) d.cc d.dM Z c):C2 g l d=some c:=by
 have be:0<g.cn.length:=by
  have:=length_pos_of_mem aa.root;simpa [ids]using this
 obtain⟨w,aA,yu,j1⟩:=adF ai be;unfold C2;rw[aA,bC];refine Ok.eq (axF (λpre (m:fI)=>HV g r d.de w.1 (pre.flatMap kB) m) ?_ _ ⟨yu.len,yu.row,λaq v _ _ ⟨a,aI,_⟩=>by simp at aI,λaq v _ _ _=>rfl⟩ ?_)
 ·rintro pre x c2 m bM fQ fZ fu;have u:x∈g.Links:=by rw[fQ];simp
  have EG:=ai.ends x u;have tj:=pP.2 EG.1;have tq:=pP.2 EG.2;have s1:=fZ.step (a:=bW.mk (aQ.mk x.A x.B) x.ki) tj tq;have e8:=s1.step (a:=bW.mk (aQ.mk x.B x.A) x.lJ) tq tj;have e1:=U8 j1 fZ.len fZ.row tj tq (dN r (aQ.mk x.A x.B)) d.de (β:=Int);have e2:∀J:fI→kr,_:=λJ=>U8 j1 s1.len s1.row tq tj (dN r (aQ.mk x.B x.A)) d.de J;simp only[jn,Nh aP,bC];refine(congrArg (λo=>Ok o λx=>x=c) (e1 λet=>bif decide (dN r (aQ.mk x.B x.A)<d.de)then aB (b2 w.2.l x.B) λ(j9:Int)=>aB (b2 et j9) λ(p4:cN)=>aB (b2 w.2.l x.A) λ(mj:Int)=>aB (b2 p4 mj) λ(py:Int)=>aB (oh p4 mj (0:Int)) λ(iD:cN)=>bM (List.set et j9.toNat iD)else bM et)).mpr ((congrArg (λo=>Ok o λx=>x=c) (e2 _)).mpr (fu _ ?_));rw[List.flatMap_append,List.flatMap_singleton];have:pre.flatMap kB++kB x=(pre.flatMap kB++[bW.mk (aQ.mk x.A x.B) x.ki])++[bW.mk (aQ.mk x.B x.A) x.lJ]:=by simp[kB]
  rw[this];exact e8
 ·intro m fZ;have dZ:=M1 ai;have aoQ:zU (ids g) (hF g r d.de) m:=by
   refine⟨yu.nd,yu.le,fZ.len,fZ.row,λa aI=>?_,λaq v cF kU aK=>?_⟩
   ·obtain⟨tv,uH⟩:=Bi.1 aI;obtain⟨ay,aG,a1,aW⟩:=yu.I5 a tv;refine⟨ay,aG,?_,aW⟩;rw[fZ.same _ _ (List.idxOf_lt_length_of_mem ay) (List.idxOf_lt_length_of_mem aG),a1];rintro⟨b,Y,be,cM,dY⟩;have XU:=DE ai (show b∈jW g from Y);have f1:=Bv XU.1 ay cM;have f2:=Bv XU.2 aG dY;have:b=a:=dZ.hop b Y a tv (by cases h5:b.Hop;cases Pj:a.Hop;rw[h5,Pj]at f1 f2;simp only at f1 f2;rw[f1,f2]);subst this;exact be uH
   ·have Y3:¬EP g r d.de (g.Links.flatMap kB) aq v:=λh=>by rw[fZ.shut aq v cF kU h]at aK;omega
    rw[fZ.same aq v cF kU Y3]at aK ⊢;have gi:=yu.hop aq v cF kU aK;refine Bi.2 ⟨gi,?_⟩;apply Classical.byContradiction;intro be;exact Y3 ⟨_,gi,be,TT yu.nd cF,TT yu.nd kU⟩
  have eH:=aa.len;refine axF (λp (t:cN)=>t=p.map λx=>((ids g).idxOf x:Int)) ?_ _ rfl ?_
  ·rintro p x q t bM fQ rfl fu;have AN:x∈d.dM:=by rw[fQ];simp
   have hle:=congrArg List.length fQ;simp at hle;rw[j1 x (aa.recv x AN),bC,oy (by simp;omega),bC];exact fu _ (by simp)
  ·rintro t rfl;rw[j1 d.cc aa.root,bC];refine Ok.aB (aeA aoQ aa.recv eH aa.root) λk hk=>?_;obtain⟨⟨gu,h4,aj,_⟩,_⟩:=Y;refine⟨k,rfl,?_⟩;rw[←aj];have Fl:=Bo ai r d.de;by_cases bA:d.dM=[]
   ·rw[hk.1 bA];have aj:=h4.min [] (λa aI=>by cases aI) (λt bU=>by rw[bA]at bU;cases bU);have aV:=Rt (N:=fv) (H:=gu) λa aI=>by have:=h4.pos a (h4.sub a aI);omega
    have e:hu fv ([]:yO)=0:=rfl;omega
   ·have h1:0<d.dM.length:=length_pos_iff.2 bA;obtain⟨aN,bw⟩:=hk.2 h1;have aj:=aN gu h4.sub h4.qu;have dX:=h4.min _ (λa aI=>aI) λt bU=>(h4.qu t bU).mono h4.sub;have gr:=(yN Fl.cost).2;have nJ:=Fl.len;have anx:mA=1099511627776:=rfl;obtain⟨K,ga,bV,i3⟩:=bw (by omega);have aV:=h4.min K ga bV;omega
end
section
def Mf{α σ HM β mz:Type}{B:Int→α→(σ→Option β)→σ→Option β}{C:Int→α→(HM→Option mz)→HM→Option mz}{K:σ→Option β}{M:HM→Option mz}{P:Option β→Option mz→Prop}{L:List α}(R:σ→HM→Prop)
  (ah:∀(j:Nat) x bM b5 s t,L[j]?=some x→R s t→(∀eF wH,R eF wH→P (bM eF) (b5 wH))→P (B (j:Int) x bM s) (C (j:Int) x b5 t)) (be:∀s t,R s t→P (K s) (M t)):∀(p l:List α) (s:σ) (t:HM),p++l=L→R s t→P (cK l p.length B K s) (cK l p.length C M t)
 |p,[],s,t,_,h=>be s t h
 |p,x::r,s,t,fQ,h=>ah p.length x _ _ s t (by rw[←fQ];simp) h λeF wH dw=>by
   have:=Mf (B:=B) (C:=C) (K:=K) (M:=M) (P:=P) (L:=L) R ah be (p++[x]) r eF wH (by rw[←fQ];simp) dw;rw[length_append]at this;exact this
def zQ{β:Type}(a b:Option β):Prop:=∃x,a=some x∧b=some x
def nM{α:Type}(f:α→Int):List α→Int
 |[]=>0
 |x::r=>bif !decide (f x=0)then f x else nM f r
def Tw{α:Type}{f:α→Int}:∀{l:List α},nM f l=0↔∀x∈l,f x=0
 |[]=>by simp[nM]
 |x::r=>by
  rw[nM];by_cases h:f x=0
  ·rw[decide_eq_true h,Bool.not_true,cond_false,Tw];simp[h]
  ·rw[decide_eq_false h,Bool.not_false,cond_true];simp[h]
def TA{α β:Type}{f:α→Int}{B:Int→α→(Unit→Option β)→Unit→Option β}{K:Unit→Option β}(e:Int→Option β)(fq:∀j x bM s,B j x bM s=bif !decide (f x=0)then e (f x)else bM ()):∀(l:List α) (j:Nat) (s:Unit),cK l j B K s=bif !decide (nM f l=0)then e (nM f l)else K ()
 |[],_,_=>rfl
 |x::r,j,s=>by
  rw[cK,fq,TA e fq r (j+1),nM];by_cases h:f x=0
  ·rw[decide_eq_true h];rfl
  ·rw[decide_eq_false h];simp only[Bool.not_false,cond_true,decide_eq_false h]
def q6(g:bu)(d:bY):Int:=
 bif decide (6<d.dM.length)then 3 else bif !zJ d.dM then 25 else bif (d.cc::d.dM).any (λr=>!jl g r)then 4 else bif decide (d.de<1)||decide (1000<d.de)then 2 else 0
variable {g:bu}
def VV(ai:iq g){d:bY}:q6 g d=0↔oj g d:=by
 unfold q6;constructor
 ·intro h;cases h1:decide (6<d.dM.length)with
  |true=>rw[h1]at h;cases h
  |false=>
  cases D:!zJ d.dM with
  |true=>rw[h1,D]at h;cases h
  |false=>
  cases aj:(d.cc::d.dM).any (λr=>!jl g r)with
  |true=>rw[h1,D,aj]at h;cases h
  |false=>
  cases aV:decide (d.de<1)||decide (1000<d.de)with
  |true=>rw[h1,D,aj,aV]at h;cases h
  |false=>
   have aj:=lE.1 aj;simp only[Bool.or_eq_false_iff,decide_eq_false_iff_not]at h1 aV;refine⟨pP.2 (by simpa using aj d.cc (by simp)),?_,λx u=>pP.2 (by simpa using aj x (by simp[u])),by omega,by omega,by omega⟩;have:=GN (p:=λa b:Int=>decide (a<b)) (λa b c h1 D=>by simp at h1 D ⊢;omega) (by simpa using D:kX (λa b:Int=>decide (a<b)) d.dM=true);exact this.imp λh=>by simpa using h
 ·intro h;have h1:=h.len;have D:=h.iN
  rw[decide_eq_false (by omega),Md h.mB,lE.2 λx u=>by
   rcases mem_cons.1 u with rfl|u
   ·rw[pP.1 h.root];rfl
   ·rw[pP.1 (h.recv x u)];rfl,decide_eq_false (by omega),decide_eq_false (by omega)]
  rfl
def agv(ai:iq g)(d:bY):Al g d=some (q6 g d):=by
 have FG:=ai.A6;unfold Al q6;by_cases h1:6<d.dM.length
 ·rw[decide_eq_true h1,decide_eq_true (by omega)];rfl
 rw[decide_eq_false h1,decide_eq_false (by omega),cond_false,cond_false]
 refine(yQ (λa b:Int=>decide (a<b)) (some 25) (λj x y r q s bM fQ aY=>by
  simp only[v1 fQ aY (by omega),bC];by_cases h:y<x
  ·have:¬x≤y:=by omega
   simp[h,this]
  ·have:x≤y:=by omega
   simp[h,this]) _).trans ?_
 show(bif zJ d.dM then _ else _)=_;cases zJ d.dM with
 |false=>rfl
 |true=>
  rw[cond_true,Bool.not_true,cond_false];show aB (jf _ _) _=_;rw[oy (by simp;omega),bC]
  refine(mh (λr=>!jl g r) (some 4) (λj x bM s=>by
   rw[MW g x (by omega),bC,decide_eq_true (qH.2 ai),Bool.true_and]) _ _ _).trans ?_
  show(bif (d.cc::d.dM).any _ then _ else _)=_;cases(d.cc::d.dM).any (λr=>!jl g r)with
  |true=>rfl
  |false=>
   simp only[cond_false];cases decide (d.de<1)<;>cases decide (1000<d.de)<;>rfl
def Up(ai:iq g)(d:bY):CR g d=some (q6 g d):=by
 unfold CR q6;by_cases h1:6<d.dM.length
 ·rw[decide_eq_true h1,decide_eq_true (by omega)];rfl
 rw[decide_eq_false h1,decide_eq_false (by omega),cond_false,cond_false,Tq d.dM (by omega),bC];show(bif !zJ d.dM then _ else _)=_;cases zJ d.dM with
 |false=>rfl
 |true=>
  rw[Bool.not_true,cond_false,cond_false,oy (by simp;omega),bC]
  refine(mh (λr=>!jl g r) (some 4) (λj x bM s=>by
   rw[MV g x,bC,decide_eq_true (qH.2 ai),Bool.true_and]) _ _ _).trans ?_
  show(bif (d.cc::d.dM).any _ then _ else _)=_;cases(d.cc::d.dM).any (λr=>!jl g r)with
  |true=>rfl
  |false=>
   simp only[cond_false];cases decide (d.de<1)<;>cases decide (1000<d.de)<;>rfl
def sk(g:bu)(ds:Bk):Int:=bif !decide (lf g=0)then 1 else bif decide (12<ds.length)then 3 else nM (q6 g) ds
def Na{ds:Bk}(h:sk g ds=0):iq g∧(∀d∈ds,oj g d)∧ds.length≤12:=by
 unfold sk at h;by_cases h1:lf g=0
 ·have ai:=qH.1 h1;rw[decide_eq_true h1,Bool.not_true,cond_false]at h;by_cases D:12<ds.length
  ·rw[decide_eq_true D]at h;cases h
  ·rw[decide_eq_false D,cond_false]at h;exact⟨ai,λd aa=>(VV ai).1 (Tw.1 h d aa),by omega⟩
 ·rw[decide_eq_false h1]at h;cases h
def TB{f:bY→kr}(bc:∀d,f d=some (q6 g d))(ds:Bk){B:Int→bY→(Unit→kr)→Unit→kr}{K:Unit→kr}(fq:∀j x bM s,B j x bM s=aB (f x) λe=>bif !decide (e=0)then some e else bM ())(gE:∀s,K s=some 0)(s:Unit):cK ds 0 B K s=some (nM (q6 g) ds):=by
 rw[TA (f:=q6 g) some (λj x bM s=>by rw[fq,bc,bC]),gE];by_cases h:nM (q6 g) ds=0
 ·rw[decide_eq_true h,h];rfl
 ·rw[decide_eq_false h];rfl
def LU(g:bu)(ds:Bk):ux g ds=some (sk g ds):=by
 unfold ux sk;rw[K9,bC];by_cases h1:lf g=0
 ·rw[decide_eq_true h1,Bool.not_true,cond_false,cond_false];by_cases D:12<ds.length
  ·rw[decide_eq_true D,decide_eq_true (by omega)];rfl
  ·rw[decide_eq_false D,decide_eq_false (by omega),cond_false,cond_false];exact TB (agv (qH.1 h1)) ds (λ_ _ _ _=>rfl) (λ_=>rfl) _
 ·rw[decide_eq_false h1];rfl
def MM(g:bu)(ds:Bk):AS g ds=some (sk g ds):=by
 unfold AS sk;rw[GZ,bC];by_cases h1:lf g=0
 ·rw[decide_eq_true h1,Bool.not_true,cond_false,cond_false];by_cases D:12<ds.length
  ·rw[decide_eq_true D,decide_eq_true (by omega)];rfl
  ·rw[decide_eq_false D,decide_eq_false (by omega),cond_false,cond_false];exact TB (Up (qH.1 h1)) ds (λ_ _ _ _=>rfl) (λ_=>rfl) _
 ·rw[decide_eq_false h1];rfl
end
section
def TC{α:Type}{R:α→α→Prop}(hi:∀a,¬R a a)(bU:∀a b c,R a b→R b c→R a c):∀{a b:List α},a.Pairwise R→b.Pairwise R→(∀x,x∈a↔x∈b)→a=b
 |[],[],_,_,_=>rfl
 |[],y::_,_,_,h=>by have:=(h y).2 (by simp);cases this
 |x::_,[],_,_,h=>by have:=(h x).1 (by simp);cases this
 |x::r,y::s,aI,Y,h=>by
  rw[pairwise_cons]at aI Y;have n5:x=y:=by
   rcases mem_cons.1 ((h x).1 (by simp))with e|h1
   ·exact e
   ·rcases mem_cons.1 ((h y).2 (by simp))with e|D
    ·exact e.symm
    ·exact absurd (bU _ _ _ (aI.1 y D) (Y.1 x h1)) (hi x)
  subst n5;rw[TC hi bU aI.2 Y.2 λz=>?_];constructor
  ·intro hz;rcases mem_cons.1 ((h z).1 (by simp[hz]))with e|h1
   ·subst e;exact absurd (aI.1 z hz) (hi z)
   ·exact h1
  ·intro hz;rcases mem_cons.1 ((h z).2 (by simp[hz]))with e|h1
   ·subst e;exact absurd (Y.1 z hz) (hi z)
   ·exact h1
variable {l:xe}
def TD{m:fA}(fH:(m.map (·.1)).Nodup)(aP:m.length≤100000){K:aQ→Prop}{f:aQ→Int}(h:kH K f l)(hk:∀h,h∈m.map (·.1)↔K h)(bc:∀h,dN m h=f h):wU m=some l:=by
 unfold wU;rw[if_pos aP]
 obtain⟨q,cZ,c8,h3⟩:=K8 (ks:=[λx:bB=>x.bh,λx:bB=>x.aS]) (l:=tZ m) (by
  unfold tZ;rw[pairwise_map];exact(pairwise_map.1 fH).imp λ{a b} h=>Nc h) (by simp[tZ];omega)
 refine cZ.trans (congrArg some (TC (R:=λa b:bB=>oa (hD a) (hD b)) (λa=>A8) (λa b c=>aaZ) ?_ h.mB λx=>?_))
 ·refine h3.imp λ{a b} jH=>?_;rw[p7,p7]at jH;simp only[gD]at jH;unfold oa hD;simp only;omega
 ·rw[c8.mem_iff,h.mem,←hk,←bc];constructor
  ·intro u;obtain⟨p,aK,rfl⟩:=List.mem_map.1 u;refine⟨List.mem_map.2 ⟨p,aK,rfl⟩,?_⟩;show p.2=dN m p.1;unfold dN;rw[D9 fH aK];rfl
  ·rintro⟨h1,D⟩;obtain⟨p,aK,he⟩:=List.mem_map.1 h1;refine List.mem_map.2 ⟨p,aK,TW he ?_⟩;rw[D,←he];show p.2=dN m p.1;unfold dN;rw[D9 fH aK];rfl
variable {g:bu}{x:bR}
def LV{rs:cN}(h:mg g x rs=0):iq g∧ul x∧x.cc∈ids g∧mg g x []=0∧∀h∈x.Links,∃a∈jW g,a.Hop=h:=by
 unfold mg at h;cases h1:decide (lf g=0)with
 |false=>rw[h1]at h;cases h
 |true=>
 cases D:decide (mW x=0)with
 |false=>rw[h1,D]at h;simp only[Bool.not_true,cond_false,Bool.not_false,cond_true]at h;rw[h]at D;simp at D
 |true=>
 cases aj:(x.cc::rs).any (λr=>!jl g r)with
 |true=>rw[h1,D,aj]at h;cases h
 |false=>
 cases aV:x.Links.any (λh=>!(nG g h.bh h.aS).2)with
 |true=>rw[h1,D,aj,aV]at h;cases h
 |false=>
  have aj:=lE.1 aj;have aC:=aj x.cc (by simp);have ai:=qH.1 (of_decide_eq_true h1);refine⟨ai,DO.1 (of_decide_eq_true D),pP.2 (by simpa using aC),?_,λk hk=>?_⟩
  ·unfold mg;rw[h1,D,aV,lE.2 λy ak=>by rw[List.mem_singleton]at ak;subst ak;exact aC];rfl
  ·have b4:=lE.1 aV k hk;simp only[Bool.not_eq_false',adA]at b4;unfold OH at b4;obtain⟨l,aP,he⟩:=List.any_eq_true.1 b4;simp only[qF,Bool.or_eq_true,Bool.and_eq_true,decide_eq_true_eq]at he;rcases he with⟨e1,e2⟩|⟨e1,e2⟩
   ·exact⟨_,u1.2 ⟨l,aP,.inl rfl⟩,by rw[e1,e2]⟩
   ·exact⟨_,u1.2 ⟨l,aP,.inr rfl⟩,by rw[e1,e2]⟩
def ul.nd(h:ul x):x.Links.Nodup:=h.dup.imp λjH e=>jH (by rw[e])
def vn(r:fA)(x:bR)(n:Int):Bool:=x.Links.all λh=>decide (n≤dN r h)
variable {r:fA}
def TE(aC:mZ g r){n:Int}(be:1≤n∧n≤1000)(aa:x.Links.Nodup)(Z:∀h∈x.Links,∃a∈jW g,a.Hop=h):
  ∃m,p3 r x n=some (vn r x n,m)∧(vn r x n=true→mZ g m)∧∀h,dN m h=dN r h-if h∈x.Links then n else 0:=by
 have key:Ok (p3 r x n) λp=>p.1=vn r x n∧(p.2.map (·.1)).Nodup∧(∀h,h∈p.2.map (·.1)↔∃a∈jW g,a.Hop=h)∧∀h,dN p.2 h=dN r h-if h∈x.Links then n else 0:=by
  unfold p3;refine axF (λpre (af:Bool×fA)=>(af.1=pre.all λh=>decide (n≤dN r h))∧(af.2.map λq:aQ×Int=>q.1).Nodup∧(∀h,h∈(af.2.map λq:aQ×Int=>q.1)↔∃a∈jW g,a.Hop=h)∧∀h,dN af.2 h=dN r h-if h∈pre then n else 0) ?_ _ ⟨rfl,aC.nd,aC.key,λh=>by simp⟩ λaf h=>Ok.s h;rintro pre k c2 ⟨f,m⟩ bM fQ ⟨h1,D,aj,aV⟩ fu;simp only at h1 D aj aV fu ⊢;have hk:k∈x.Links:=by rw[fQ];simp
  have CA:k∉pre:=λh=>by
   rw[fQ,nodup_append]at aa;exact aa.2.2 k h k (by simp) rfl
  have bQ:=aV k;rw[if_neg CA]at bQ;have PS:=aC.rg k;have aA:bE (((dL dj m k).getD (0:Int))-n)=dN m k-n:=by
   show bE (dN m k-n)=_;exact g4 (by omega) (by omega)
  have hj:∀h,dN (gq dj m k (dN m k-n)) h=if h=k then dN m k-n else dN m h:=λh=>Dl m k h _
  refine Ok.hU ?_ ?_
  ·cases cA:dL dj m k with
   |none=>exact absurd ((aj k).2 (Z k hk)) (LP.1 cA)
   |some v=>rfl
  rw[aA];have lB:((gq dj m k (dN m k-n)).map (·.1)).Nodup∧(∀h,h∈(gq dj m k (dN m k-n)).map (·.1)↔∃a∈jW g,a.Hop=h)∧∀h,dN (gq dj m k (dN m k-n)) h=dN r h-if h∈pre++[k]then n else 0:=by
   refine⟨Ew D _ _,λh=>?_,λh=>?_⟩
   ·rw[wz,aj];exact⟨λct=>ct.elim (λe=>e▸Z k hk) id,.inr⟩
   ·rw[hj];by_cases he:h=k
    ·subst he;rw[if_pos rfl,if_pos (by simp)];omega
    ·rw[if_neg he,aV h];by_cases aK:h∈pre
     ·rw[if_pos aK,if_pos (by simp[aK])]
     ·rw[if_neg aK,if_neg (by simp[aK,he])]
  cases bc:f with
  |true=>
   rw[cond_true];refine fu _ ⟨?_,lB⟩;rw[List.all_append,←h1,bc];show decide (0≤dN (gq dj m k (dN m k-n)) k)=_;rw[hj k,if_pos rfl];simp only[all_cons,all_nil,Bool.and_true,Bool.true_and];exact decide_eq_decide.2 (by omega)
  |false=>
   rw[cond_false];refine fu _ ⟨?_,lB⟩;rw[List.all_append,←h1,bc];rfl
 obtain⟨⟨b,m⟩,e,h1,D,aj,aV⟩:=key;simp only at h1 D aj aV;subst h1;refine⟨m,e,λbc=>⟨D,aj,λh v ai=>?_⟩,aV⟩;have kU:dN m h=v:=by unfold dN;rw[ai];rfl
 have PS:=aC.rg h;have b4:=aV h;by_cases ct:h∈x.Links
 ·rw[if_pos ct]at b4;have:=List.all_eq_true.1 bc h ct;simp only[decide_eq_true_eq]at this;omega
 ·rw[if_neg ct]at b4;omega
def Tx(ai:iq g)(aC:mZ g r)(aP:zS g r l){n:Int}(be:1≤n∧n≤1000)(u:x.Links.length≤90000)(hz:¬(x.cc=0∧x.Links.length=0)):
  Ok (yJ g l x n) λp=>(p.2=(decide (mg g x []=0)&&vn r x n))∧(p.2=true→kH (Ea g) (λh=>dN r h-if h∈x.Links then n else 0) p.1):=by
 have kj:=ai.nl;unfold yJ;rw[Lr,bC,show(decide (x.cc=0)&&decide (x.Links.length=0))=false by rw[←Bool.decide_and];exact decide_eq_false hz,cond_false,Q3 _ _ _ u (by simp),bC];by_cases ah:mg g x []=0
 rotate_left
 ·rw[decide_eq_false ah];exact Ok.s ⟨rfl,λh=>by cases h⟩
 obtain⟨_,vQ,avF,_,gi⟩:=LV ah;have fH:=vQ.nd;rw[decide_eq_true ah,Bool.not_true,cond_false,Bool.true_and];refine axF (λpre (l:xe)=>(∀h∈pre,n≤dN r h)∧kH (Ea g) (λh=>dN r h-if h∈pre then n else 0) l) ?_ _ ⟨λh ct=>(by cases ct),aP.congr (λ_=>Iff.rfl) λh=>by simp⟩ λl h=>Ok.s ⟨?_,λ_=>h.2⟩
 rotate_left
 ·exact(List.all_eq_true.2 λk hk=>decide_eq_true (h.1 k hk)).symm
 rintro pre k c2 l bM fQ ⟨bA,h⟩ fu;have hk:k∈x.Links:=by rw[fQ];simp
 have CA:k∉pre:=λh=>by
  rw[fQ,nodup_append]at fH;exact fH.2.2 k h k (by simp) rfl
 obtain⟨a,aI,rfl⟩:=gi k hk;have PS:=aC.rg a.Hop;have j1:=Nh h a.Hop.bh a.Hop.aS;have e:aQ.mk a.Hop.bh a.Hop.aS=a.Hop:=rfl;simp only[e,if_neg CA,Int.sub_zero]at j1;rw[j1,bC];by_cases cq:dN r a.Hop<n
 ·rw[decide_eq_true cq,cond_true];refine Ok.s ⟨?_,λh=>by cases h⟩;refine(Bool.eq_false_iff.2 λbc=>?_).symm;have:=List.all_eq_true.1 bc a.Hop hk;simp only[decide_eq_true_eq]at this;omega
 rw[decide_eq_false cq,cond_false,g4 (n:=0-n) (by omega) (by omega)];obtain⟨hx,cZ,c8,_⟩:=LS h (by have:=h.len (g:=g) (λ_ h=>h);omega) a.Hop.bh a.Hop.aS (0-n) (by simp only[e,if_neg CA];omega);rw[cZ,bC];refine fu _ ⟨λh ct=>?_,c8.congr (λk=>⟨λhk=>hk.elim id λe=>⟨a,aI,e.symm⟩,.inl⟩) λk=>?_⟩
 ·rcases List.mem_append.1 ct with ct|ct
  ·exact bA h ct
  ·rw[List.mem_singleton]at ct;subst ct;omega
 simp only[e,if_neg CA];by_cases he:k=a.Hop
 ·subst he;rw[if_pos rfl,if_pos (by simp)];omega
 ·rw[if_neg he];by_cases aK:k∈pre
  ·rw[if_pos aK,if_pos (by simp[aK])]
  ·rw[if_neg aK,if_neg (by simp[aK,he])]
def Ty(h:x.cc=0∧x.Links.length=0):x=bR.mk 0 []:=by
 cases x with
 |mk a b=>
  simp only at h;rw[h.1,eq_nil_of_length_eq_zero h.2]
def He(x:bR):(decide (x.cc=0)&&decide (x.Links.length=0))=decide (x.cc=0∧x.Links.length=0):=by rw[Bool.decide_and]
def abd(a b:Option (xe×Int)):Prop:=∃x,a=some x∧b=some x∧x.1.length≤1000
variable {z:Bt}
def aed(g:bu)(ds:Bk)(hz:∀x∈z,x.Links.length≤90000):abd (vz g ds z) (GL g ds z):=by
 unfold vz GL;rw[LU,MM,bC,bC];by_cases Y:sk g ds=0
 rotate_left
 ·rw[decide_eq_false Y];exact⟨_,rfl,rfl,by simp⟩
 obtain⟨ai,aa,aP⟩:=Na Y;have kj:=ai.nl;obtain⟨apQ,bc,AE⟩:=TX ai;rw[decide_eq_true Y,Bool.not_true,cond_false,cond_false];by_cases eH:ds.length<z.length
 ·rw[decide_eq_true (by omega)];exact⟨_,rfl,rfl,by simp⟩
 rw[decide_eq_false (by omega),cond_false,cond_false,KZ,bC,bc,bC];refine Mf (L:=z) (λ(r:fA) (l:xe)=>mZ g r∧zS g r l) ?_ ?_ [] z _ _ rfl ⟨Lo ai,AE⟩
 ·rintro j x bM b5 r l aY ⟨aC,tu⟩ fu;have Zm:x∈z:=List.mem_of_getElem? aY;have p8:j<z.length:=(List.getElem?_eq_some_iff.1 aY).1;obtain⟨d,Jp⟩:∃d,ds[j]?=some d:=⟨_,List.getElem?_eq_getElem (by omega)⟩;have m6:=aa d (List.mem_of_getElem? Jp);simp only[jn,Ng Jp,bC,Lp,He];by_cases bA:x.cc=0∧x.Links.length=0
  ·rw[decide_eq_true bA,Ty bA];simp only[Bool.not_true,cond_false,RT,bC];rw[show yJ g l (bR.mk 0 []) d.de=some (l,true)by unfold yJ;rw[Lr];rfl,bC];exact fu _ _ ⟨aC,tu⟩
  ·rw[decide_eq_false bA,Bool.not_false,cond_true,KE _ _ _ (hz x Zm) (by simp),bC];obtain⟨⟨hx,b⟩,e1,e2,bT⟩:=Tx ai aC tu m6.iN (hz x Zm) bA;simp only at e2 bT;rw[e1,bC];by_cases ah:mg g x []=0
   ·obtain⟨_,vQ,_,_,gi⟩:=LV ah;obtain⟨m,ay,aG,a1⟩:=TE aC m6.iN vQ.nd gi;rw[decide_eq_true ah]at e2 ⊢;simp only[Bool.not_true,cond_false,ay,bC];rw[Bool.true_and]at e2;subst e2;cases AA:vn r x d.de with
    |false=>exact⟨_,rfl,rfl,by simp⟩
    |true=>exact fu _ _ ⟨aG AA,(bT AA).congr (λ_=>Iff.rfl) λh=>(a1 h).symm⟩
   ·rw[decide_eq_false ah]at e2 ⊢;rw[Bool.false_and]at e2;subst e2;exact⟨_,rfl,rfl,by simp⟩
 ·rintro r l ⟨aC,tu⟩;have PD:=Me aC;rw[TD aC.nd (by omega) tu aC.key (λ_=>rfl),bC];have:=tu.len (g:=g) λ_ h=>h;exact⟨_,rfl,rfl,by show l.length≤1000;omega⟩
def al2{a8:yO}(dZ:pR a8)(root:Int)(ts:cN):∃y,x4 a8 root ts y:=by
 by_cases ah:∀t,t∈ts→e9 fv a8 root t
 ·obtain⟨Z,c,Y⟩:=Ul dZ ah;exact⟨(Z,c,true),.inl ⟨rfl,Y⟩⟩
 ·exact⟨([],0,false),.inr ⟨rfl,ah⟩⟩
def Mg(ai:iq g)(aP:zS g r l){d:bY}(aa:oj g d)(x:Es×Int×Bool)(u:x4 (hF g r d.de) d.cc d.dM x):(x.2.2=true↔∀t,t∈d.dM→e9 fv (hF g r d.de) d.cc t)∧(x.2.2=true→C2 g l d=some x.2.1):=by
 rcases u with⟨e,Y⟩|⟨e,h⟩
 ·have ah:∀t,t∈d.dM→e9 fv (hF g r d.de) d.cc t:=by
   obtain⟨⟨gu,h4,_,_⟩,_⟩:=Y;exact λt bU=>(h4.qu t bU).mono h4.sub
  exact⟨⟨λ_=>ah,λ_=>e⟩,λ_=>adi ai aP aa Y⟩
 ·subst e;exact⟨⟨λh=>(by cases h),λdw=>absurd dw h⟩,λh=>by cases h⟩
def TF(h:mg g x []=0):Cd g x=(EH g x.Links,0):=by
 unfold Cd;rw[decide_eq_true h];rfl
def ai1(g:bu)(ds:Bk)(hz:∀x∈z,x.Links.length≤90000):zQ (Gg g ds z) (Gy g ds z):=by
 unfold Gg Gy;rw[LU,MM,bC,bC];by_cases Y:sk g ds=0
 rotate_left
 ·rw[decide_eq_false Y];exact⟨_,rfl,rfl⟩
 obtain⟨ai,aa,aP⟩:=Na Y;have kj:=ai.nl;obtain⟨apQ,bc,AE⟩:=TX ai;rw[decide_eq_true Y,Bool.not_true,cond_false,cond_false];by_cases eH:z.length=ds.length
 rotate_left
 ·rw[decide_eq_false (by omega)];exact⟨_,rfl,rfl⟩
 rw[decide_eq_true (by omega),Bool.not_true,cond_false,cond_false,KZ,bC,bc,bC];refine Mf (L:=ds) (λ(r:fA) (l:xe)=>mZ g r∧zS g r l) ?_ (λ_ _ _=>⟨_,rfl,rfl⟩) [] ds _ _ rfl ⟨Lo ai,AE⟩;rintro j d bM b5 r l aY ⟨aC,tu⟩ fu;have m6:=aa d (List.mem_of_getElem? aY);have p8:j<ds.length:=(List.getElem?_eq_some_iff.1 aY).1;obtain⟨x,Zl⟩:∃x,z[j]?=some x:=⟨_,List.getElem?_eq_getElem (by omega)⟩;have mJ:=hz x (List.mem_of_getElem? Zl);have oC:d.dM.length≤90000:=by have:=m6.len;omega
 obtain⟨pb,qa,xb⟩:=abW ai tu m6;have avD:=(DF ai m6.root).1;simp only[jn,Ng Zl,bC,Lr,He,qa];obtain⟨q,cA,DX⟩:=ND ai r d.de;have Fl:=Bo ai r d.de
 have uM:∀b:Bool,(∀y,x4 (hF g r d.de) d.cc d.dM y→b=bif !y.2.2 then decide (x.cc=0∧x.Links.length=0)else(decide (x.cc=d.cc)&&(decide (mg g x d.dM=0)&&(vn r x d.de&&decide (EH g x.Links=y.2.1)))))→Gm g r d x=some b:=λb k5=>by
  unfold Gm;rw[cA,bC];refine Ok.eq (VT (M2 DX Fl) m6.len λy ak=>?_);have ak:=k5 y (Um DX ak);subst ak;cases qD:!y.2.2 with
  |true=>rw[cond_true,Lp,bC,He];exact Ok.s rfl
  |false=>
   simp only[cond_false,jn];by_cases h1:x.cc=d.cc
   rotate_left
   ·rw[decide_eq_false h1];exact Ok.s rfl
   rw[decide_eq_true h1,Bool.not_true,cond_false,KE _ _ _ mJ oC,bC];by_cases D:mg g x d.dM=0
   rotate_left
   ·rw[decide_eq_false D];exact Ok.s rfl
   rw[decide_eq_true D,Bool.not_true,cond_false];refine(congrArg (λo=>Ok o _) (mh (λk:aQ=>decide (dN r k<d.de)) (some false) (λj k bM s=>rfl) _ _ _)).mpr ?_
   have am2:(x.Links.any λk=>decide (dN r k<d.de))=!vn r x d.de:=by
    unfold vn;rw[List.any_eq_not_all_not];congr 2;funext k;rw[Bool.eq_iff_iff];simp only[Bool.not_eq_true',decide_eq_false_iff_not,decide_eq_true_eq];omega
   rw[am2];cases AA:vn r x d.de with
   |false=>exact Ok.s rfl
   |true=>
    simp only[Bool.not_true,cond_false,agp _ _ mJ,bC,TF (LV D).2.2.2.1];exact Ok.s rfl
 obtain⟨y,ak⟩:=al2 Fl d.cc d.dM
 have aos:=uM _ λRP apz=>by
  obtain⟨g6,a2⟩:=Mg ai tu m6 y ak;obtain⟨dI,ek⟩:=Mg ai tu m6 RP apz;have e:RP.2.2=y.2.2:=by rw[Bool.eq_iff_iff,g6,dI]
  show(bif !y.2.2 then decide (x.cc=0∧x.Links.length=0)else(decide (x.cc=d.cc)&&(decide (mg g x d.dM=0)&&(vn r x d.de&&decide (EH g x.Links=y.2.1)))))=_;rw[e];cases h:y.2.2 with
  |false=>rfl
  |true=>
   have:=(a2 h).symm.trans (ek (e.trans h));rw[Option.some.injEq]at this;rw[this]
 obtain⟨g6,a2⟩:=Mg ai tu m6 y ak;have ao5:pb=y.2.2:=by rw[Bool.eq_iff_iff,xb,g6]
 subst ao5;rw[aos,bC];by_cases bA:x.cc=0∧x.Links.length=0
 ·rw[decide_eq_true bA];cases ah:y.2.2 with
  |false=>
   simp only[Bool.not_false,cond_true,Bool.not_true,cond_false,show(false==true)=false from rfl];rw[Ty bA,RT,bC];exact fu _ _ ⟨aC,tu⟩
  |true=>
   simp only[Bool.not_true,cond_false,show(true==true)=true from rfl,cond_true];rw[decide_eq_false (by omega)];exact⟨_,rfl,rfl⟩
 ·rw[decide_eq_false bA];cases ah:y.2.2 with
  |false=>
   simp only[Bool.not_false,cond_true,show(false==false)=true from rfl];exact⟨_,rfl,rfl⟩
  |true=>
   obtain⟨⟨hx,b⟩,e1,e2,bT⟩:=Tx ai aC tu m6.iN mJ bA;simp only at e2 bT;simp only[Bool.not_true,cond_false,show(true==false)=false from rfl,e1,bC,Q3 _ _ _ mJ oC,acj _ _ mJ,a2 ah];by_cases h1:x.cc=d.cc
   rotate_left
   ·rw[decide_eq_false h1];cases b<;>exact⟨_,rfl,rfl⟩
   rw[decide_eq_true h1];by_cases D:mg g x d.dM=0
   rotate_left
   ·rw[decide_eq_false D];cases b<;>exact⟨_,rfl,rfl⟩
   obtain⟨_,vQ,_,Pn,gi⟩:=LV D;rw[decide_eq_true D];rw[decide_eq_true Pn,Bool.true_and]at e2;subst e2;cases AA:vn r x d.de with
   |false=>exact⟨_,rfl,rfl⟩
   |true=>
    simp only[Bool.not_true,cond_false,Bool.true_and,TF Pn];by_cases aj:EH g x.Links=y.2.1
    rotate_left
    ·rw[decide_eq_false aj];exact⟨_,rfl,rfl⟩
    rw[decide_eq_true aj,Bool.not_true,cond_false,cond_false];obtain⟨m,ay,aG,a1⟩:=TE aC m6.iN vQ.nd gi;rw[ay,bC];exact fu _ _ ⟨aG AA,(bT AA).congr (λ_=>Iff.rfl) λh=>(a1 h).symm⟩
end
section
def p0(n:Int)(m:fA)(h:aQ):fA:=gq dj m h (dN m h+n)
def zf(p:bR×Int)(m:fA):fA:=p.1.Links.foldl (p0 p.2) m
structure x7(m:fA)(k:Nat):Prop where
 nd:(m.map (·.1)).Nodup
 key:∀h,h∈m.map (·.1)→(1≤h.bh∧h.bh≤99)∧1≤h.aS∧h.aS≤99
 val:∀h,0≤dN m h∧dN m h≤1000*(k:Int)
 len:m.length≤98*k
variable {k:Nat}{m:fA}{x:bR}{β:Type}
def MN{n:Int}(be:0≤n∧n≤1000){B:Int→aQ→(fA→Option β)→fA→Option β}{K:fA→Option β}(hk:k≤12)(u:ul x)(hm:x7 m k)
  (fq:∀j h bM m,0≤dN m h→dN m h≤100000→B j h bM m=bM (p0 n m h)):cK x.Links 0 B K m=K (zf (x,n) m)∧x7 (zf (x,n) m) (k+1):=by
 have eH:x.Links.length≤98:=by
  have h1:=vX (a:=x.Links.map (·.aS)) (b:=(List.range 99).map λi=>((i+1:Nat):Int)) (by
   show Pairwise _ _;rw[pairwise_map]
   exact u.dup) λy ak=>by
    obtain⟨h,ct,rfl⟩:=List.mem_map.1 ak;have:=(u.Ds h ct).2;refine List.mem_map.2 ⟨(h.aS-1).toNat,by rw[List.mem_range];omega,by omega⟩
  have D:=vX (a:=x.cc::x.Links.map (·.aS)) (b:=(List.range 99).map λi=>((i+1:Nat):Int)) (by
   show Pairwise _ _;rw[pairwise_cons,pairwise_map];refine⟨λy ak e=>?_,u.dup⟩;obtain⟨h,ct,rfl⟩:=List.mem_map.1 ak
   exact u.QJ h ct e.symm) λy ak=>by
    rcases mem_cons.1 ak with rfl|ak
    ·have:=u.rt;exact List.mem_map.2 ⟨(x.cc-1).toNat,by rw[List.mem_range];omega,by omega⟩
    ·obtain⟨h,ct,rfl⟩:=List.mem_map.1 ak;have:=(u.Ds h ct).2;refine List.mem_map.2 ⟨(h.aS-1).toNat,by rw[List.mem_range];omega,by omega⟩
  simp at D;omega
 have key:∀(p r:Es) (m1:fA),p++r=x.Links→(m1.map (·.1)).Nodup→(∀h,h∈m1.map (·.1)→(1≤h.bh∧h.bh≤99)∧1≤h.aS∧h.aS≤99)→(∀h,dN m1 h=dN m h+if h∈p then n else 0)→m1.length≤98*k+p.length→
   cK r p.length B K m1=K (r.foldl (p0 n) m1)∧x7 (r.foldl (p0 n) m1) (k+1):=by
  intro p r;induction r generalizing p with
  |nil=>
   intro m1 aK h1 D aj aV;rw[append_nil]at aK;subst aK;refine⟨rfl,h1,D,λh=>?_,by show m1.length≤_;omega⟩;show 0≤dN m1 h∧dN m1 h≤_;rw[aj];have:=hm.val h;split<;>omega
  |cons y r bX=>
   intro m1 aK h1 D aj aV;have ai:=hm.val y;have ak:=aj y
   have FQ:y∉p:=λh=>by
    have:=u.nd;rw[←aK,nodup_append]at this;exact this.2.2 y h y (by simp) rfl
   rw[if_neg FQ]at ak;rw[cK,fq _ _ _ _ (by omega) (by omega),foldl_cons];have:=bX (p++[y]) (p0 n m1 y) (by rw[←aK];simp) (Ew h1 _ _) (λh ct=>?_) (λh=>?_) ?_
   ·rw[length_append]at this;exact this
   ·rcases wz.1 ct with rfl|ct
    ·exact u.Ds h (by rw[←aK];simp)
    ·exact D h ct
   ·unfold p0;rw[Dl];by_cases he:h=y
    ·subst he;rw[if_pos rfl,if_pos (by simp)];omega
    ·rw[if_neg he,aj h];by_cases ct:h∈p
     ·rw[if_pos ct,if_pos (by simp[ct])]
     ·rw[if_neg ct,if_neg (by simp[ct,he])]
   ·have b4:=ML m1 y (dN m1 y+n);have dz:(p0 n m1 y).length≤m1.length+1:=by
     have:=congrArg List.length b4;rw[length_map]at this;unfold p0;rw[this];split<;>simp
    rw[length_append];show(p0 n m1 y).length≤_;simp only[length_singleton];omega
 exact key [] x.Links m rfl hm.nd hm.key (λh=>by simp) (by simpa using hm.len)
def ai2{n:Int}(be:0≤n∧n≤1000)(hk:k≤12)(u:ul x)(hm:x7 m k){l:xe}(aP:kH (oN m) (dN m) l){B:Int→aQ→(xe→Option β)→xe→Option β}{K:xe→Option β}
  (fq:∀j h bM l,B j h bM l=aB (vT l h.bh h.aS n) λv=>bM v):∃ob,cK x.Links 0 B K l=K ob∧kH (oN (zf (x,n) m)) (dN (zf (x,n) m)) ob:=by
 have bU:=(MN (β:=Unit) (B:=λ_ h bM m=>bM (p0 n m h)) (K:=λ_=>none) be hk u hm λ_ _ _ _ _ _=>rfl).2
 have key:∀(p r:Es) (m1:fA) (iw:xe),p++r=x.Links→(∀h,dN m1 h=dN m h+if h∈p then n else 0)→iw.length≤98*k+p.length→kH (oN m1) (dN m1) iw→
   ∃ob,cK r p.length B K iw=K ob∧kH (oN (r.foldl (p0 n) m1)) (dN (r.foldl (p0 n) m1)) ob:=by
  intro p r;induction r generalizing p with
  |nil=>intro m1 iw aK aj aV b4;exact⟨iw,rfl,b4⟩
  |cons y r bX=>
   intro m1 iw aK aj aV b4;have ai:=hm.val y;have ak:=aj y
   have FQ:y∉p:=λh=>by
    have:=u.nd;rw[←aK,nodup_append]at this;exact this.2.2 y h y (by simp) rfl
   rw[if_neg FQ]at ak;have e:aQ.mk y.bh y.aS=y:=rfl;have k7:=congrArg List.length aK;simp only[length_append,length_cons]at k7;have mJ:x.Links.length≤100000:=by
    have:=vX (a:=x.Links.map (·.aS)) (b:=(List.range 99).map λi=>((i+1:Nat):Int)) (by
     show Pairwise _ _;rw[pairwise_map]
     exact u.dup) λy ak=>by
      obtain⟨h,ct,rfl⟩:=List.mem_map.1 ak;have:=(u.Ds h ct).2;refine List.mem_map.2 ⟨(h.aS-1).toNat,by rw[List.mem_range];omega,by omega⟩
    simp at this;omega
   have avJ:x.Links.length≤99:=by
    have:=vX (a:=x.Links.map (·.aS)) (b:=(List.range 99).map λi=>((i+1:Nat):Int)) (by
     show Pairwise _ _;rw[pairwise_map]
     exact u.dup) λy ak=>by
      obtain⟨h,ct,rfl⟩:=List.mem_map.1 ak;have:=(u.Ds h ct).2;refine List.mem_map.2 ⟨(h.aS-1).toNat,by rw[List.mem_range];omega,by omega⟩
    simpa using this
   obtain⟨hx,cZ,c8,h3⟩:=LS b4 (by omega) y.bh y.aS n (by rw[e];omega);rw[cK,fq,cZ,bC,foldl_cons];have:=bX (p++[y]) (p0 n m1 y) hx (by rw[←aK];simp) (λh=>?_) (by rw[length_append,length_singleton];omega) (c8.congr (λk=>?_) λk=>?_)
   ·rw[length_append]at this;exact this
   ·unfold p0;rw[Dl];by_cases he:h=y
    ·subst he;rw[if_pos rfl,if_pos (by simp)];omega
    ·rw[if_neg he,aj h];by_cases ct:h∈p
     ·rw[if_pos ct,if_pos (by simp[ct])]
     ·rw[if_neg ct,if_neg (by simp[ct,he])]
   ·unfold oN p0;rw[wz,e];exact or_comm
   ·unfold p0;rw[Dl,e]
 have AF:l.length≤98*k:=by
  have:=vX (a:=l.map hD) (b:=m.map (·.1)) (by
   show Pairwise _ _;rw[pairwise_map]
   exact aP.mB.imp λ{a b} h (e:hD a=hD b)=>by rw[e]at h;exact A8 h) λy ak=>by
    obtain⟨z,hz,rfl⟩:=List.mem_map.1 ak;exact((aP.mem z).1 hz).1
  simp at this;have:=hm.len;omega
 exact key [] x.Links m l rfl (λh=>by simp) (by simpa using AF) aP
noncomputable def qo(x:bR):Int:=bif decide (x.cc=0∧x.Links.length=0)then 0 else mW x
variable {z:Bt}
def aee{w:cN}(th:z.length≤12)(sv:∀(j:Nat) x,z[j]?=some x→∃n,b2 w (j:Int)=some n∧0≤n∧n≤1000){e:Int→Option β}{B:Int→bR→(fA→Option β)→fA→Option β}{C:Int→bR→(xe→Option β)→xe→Option β}
  (fq:∀(j:Nat) x bM m n,x∈z→j≤11→b2 w (j:Int)=some n→0≤n∧n≤1000→x7 m j→B (j:Int) x bM m=bif decide (x.cc=0∧x.Links.length=0)then bM m else bif !decide (mW x=0)then e (mW x)else bM (zf (x,n) m))
  (mF:∀(j:Nat) x b5 m l n,x∈z→j≤11→b2 w (j:Int)=some n→0≤n∧n≤1000→x7 m j→kH (oN m) (dN m) l→(x.Links.length=0→C (j:Int) x b5 l=b5 l)∧(ul x→∃ob,C (j:Int) x b5 l=b5 ob∧kH (oN (zf (x,n) m)) (dN (zf (x,n) m)) ob)) (K:fA→Option β) :
  ∀(p r:Bt) (m:fA),p++r=z→x7 m p.length→∃l4,cK r p.length B K m=(bif !decide (nM qo r=0)then e (nM qo r)else K l4)∧
   (nM qo r=0→x7 l4 z.length∧∀(M:xe→Option β) l,kH (oN m) (dN m) l→∃ob,cK r p.length C M l=M ob∧kH (oN l4) (dN l4) ob):=by
 intro p r;induction r generalizing p with
 |nil=>
  intro m aK hm;rw[append_nil]at aK;subst aK;exact⟨m,rfl,λ_=>⟨hm,λM l aP=>⟨l,rfl,aP⟩⟩⟩
 |cons x r bX=>
  intro m aK hm;have u:x∈z:=by rw[←aK];simp
  have k7:=congrArg List.length aK;simp only[length_append,length_cons]at k7;obtain⟨n,be,m8⟩:=sv p.length x (by rw[←aK];simp);rw[cK,fq _ _ _ _ _ u (by omega) be m8 hm,nM];by_cases bA:x.cc=0∧x.Links.length=0
  ·have bU:qo x=0:=by unfold qo;rw[decide_eq_true bA];rfl
   obtain⟨l4,g6,a2⟩:=bX (p++[x]) m (by rw[←aK];simp) ⟨hm.nd,hm.key,λh=>by have:=hm.val h;rw[length_append,length_singleton];omega,by have:=hm.len;rw[length_append,length_singleton];omega⟩;rw[length_append,length_singleton]at g6 a2;refine⟨l4,?_,?_⟩
   ·rw[decide_eq_true bA,cond_true,bU];exact g6
   ·rw[bU];intro bc;obtain⟨dI,ek⟩:=a2 bc;refine⟨dI,λM l aP=>?_⟩;rw[cK,(mF _ _ _ _ _ _ u (by omega) be m8 hm aP).1 bA.2];exact ek M l aP
  ·rw[decide_eq_false bA,cond_false];have bU:qo x=mW x:=by unfold qo;rw[decide_eq_false bA];rfl
   rw[bU];by_cases ah:mW x=0
   ·have vQ:=DO.1 ah;rw[decide_eq_true ah,Bool.not_true,cond_false,cond_false];have bw:=(MN (β:=Unit) (n:=n) (B:=λ_ h bM m=>bM (p0 n m h)) (K:=λ_=>none) m8 (k:=p.length) (by omega) vQ hm λ_ _ _ _ _ _=>rfl).2;obtain⟨l4,g6,a2⟩:=bX (p++[x]) (zf (x,n) m) (by rw[←aK];simp) (by rw[length_append,length_singleton];exact bw);rw[length_append,length_singleton]at g6 a2;refine⟨l4,g6,?_⟩;intro bc;obtain⟨dI,ek⟩:=a2 bc;refine⟨dI,λM l aP=>?_⟩;obtain⟨iw,d1,d2⟩:=(mF _ _ (λeF=>cK r (p.length+1) C M eF) _ _ _ u (by omega) be m8 hm aP).2 vQ;obtain⟨hx,d3,d4⟩:=ek M iw d2;exact⟨hx,d1.trans d3,d4⟩
   ·rw[decide_eq_false ah];refine⟨m,?_,λh=>absurd h ah⟩;simp only[Bool.not_false,cond_true,decide_eq_false ah]
def aef(hz:∀x∈z,x.Links.length≤90000)(w:cN):zQ (Gl z w) (GK z w):=by
 unfold Gl GK;by_cases eH:z.length=w.length
 rotate_left
 ·rw[decide_eq_false (by omega)];exact⟨_,rfl,rfl⟩
 rw[decide_eq_true (by omega),Bool.not_true,cond_false,cond_false];have cz:∀{β:Type} (a:Option β) (B:Int→Int→(Unit→Option β)→Unit→Option β) (K:Unit→Option β),(∀j x bM s,B j x bM s=bif (decide (x<(0:Int))||decide ((1000:Int)<x))then a else bM ())→cK w 0 B K ()=bif w.any (λx=>decide (x<(0:Int))||decide ((1000:Int)<x))then a else K ():=λa B K fq=>mh _ a fq w 0 ()
 rw[cz _ _ _ λ_ _ _ _=>rfl,cz _ _ _ λ_ _ _ _=>rfl];cases aA:w.any (λx=>decide (x<(0:Int))||decide ((1000:Int)<x))with
 |true=>exact⟨_,rfl,rfl⟩
 |false=>
 have aA:=lE.1 aA;rw[cond_false,cond_false];by_cases th:12<z.length
 ·rw[decide_eq_true (by omega)];exact⟨_,rfl,rfl⟩
 rw[decide_eq_false (by omega),cond_false,cond_false]
 have mG:∀{B:Int→bR→(Unit→Option (xe×Int))→Unit→Option (xe×Int)} (K:Unit→Option (xe×Int)),(∀j x bM s,x∈z→B j x bM s=bif !decide (qo x=0)then some ([],qo x)else bM ())→cK z 0 B K ()=bif !decide (nM qo z=0)then some ([],nM qo z)else K ():=λ{B} K fq=>by
  have:∀(l:Bt) (j:Nat),(∀x∈l,x∈z)→cK l j B K ()=bif !decide (nM qo l=0)then some ([],nM qo l)else K ():=by
   intro l;induction l with
   |nil=>intro j _;rfl
   |cons x r bX=>
    intro j aP;rw[cK,fq _ _ _ _ (aP x (by simp)),nM,bX (j+1) λy ak=>aP y (by simp[ak])];by_cases h:qo x=0
    ·rw[decide_eq_true h];rfl
    ·rw[decide_eq_false h];simp only[Bool.not_false,cond_true,decide_eq_false h]
  exact this z 0 λ_ h=>h
 have sv:∀(j:Nat) x,z[j]?=some x→∃n,b2 w (j:Int)=some n∧0≤n∧n≤1000:=λj x aY=>by
  have:j<z.length:=(List.getElem?_eq_some_iff.1 aY).1;have Zi:w[j]?=some w[j]:=List.getElem?_eq_getElem (by omega);have:=aA _ (List.mem_of_getElem? Zi);simp only[Bool.or_eq_false_iff,decide_eq_false_iff_not]at this;exact⟨_,eM Zi,by omega,by omega⟩
 refine(congrArg (zQ _) (mG _ λj x bM s u=>?_)).mpr ?_
 ·simp only[jn,QZ x (by have:=hz x u;omega),bC,Lr,He];unfold qo;by_cases bA:x.cc=0∧x.Links.length=0
  ·rw[decide_eq_true bA];simp only[cond_true,Bool.not_true,decide_true,cond_false];cases decide (mW x=0)<;>rfl
  ·rw[decide_eq_false bA];by_cases ah:mW x=0
   ·simp only[cond_false,decide_eq_true ah];rfl
   ·simp only[Bool.not_false,cond_true,cond_false,decide_eq_false ah]
 have iX:=λB C fq mF K=>aee (β:=xe×Int) (e:=λe=>some ([],e)) (B:=B) (C:=C) (by omega) sv fq mF K [] z [] rfl ⟨by simp,by simp,λh=>by simp[dN,dL],by simp⟩
 obtain⟨l4,g6,a2⟩:=iX (λ(bN:Int) (e2:bR) (gX:(List (aQ×Int))→Option (xe×Int)) (bJ:(List (aQ×Int)))=>jn (λ(c6:(List (aQ×Int)))=>gX c6) λdx=>aB (yj e2) λ(aJ:Bool)=>bif aJ then dx bJ else aB (yc e2) λ(bq:Int)=>bif !decide (bq=(0:Int))then some ([],bq)else cK e2.Links 0 (λ(dd:Int) (bT:aQ) (jc:(List (aQ×Int))→Option (xe×Int)) (et:(List (aQ×Int)))=>aB (b2 w (bN:Int)) λ(cr:Int)=>jc (gq dj et bT (bE (((dL dj et bT).getD (0:Int))+cr)))) (λ(et:(List (aQ×Int)))=>dx et) bJ) (λ(dd:Int) (bT:bR) (jc:(xe)→Option (xe×Int)) (ee:(xe))=>cK bT.Links 0 (λ(hN:Int) (fG:aQ) (mb:(xe)→Option (xe×Int)) (hS:(xe))=>aB (b2 w (dd:Int)) λ(cr:Int)=>aB (vT hS fG.bh fG.aS cr) λ(cu:(xe))=>mb cu) (λ(hS:(xe))=>jc hS) ee)
  (λj x bM m n u aY be m8 hm=>by
   simp only[jn];rw[Lp,bC,He,Q4 x (by have:=hz x u;omega),bC];cases decide (x.cc=0∧x.Links.length=0)with
   |true=>rfl
   |false=>
    rw[cond_false,cond_false];by_cases ah:mW x=0
    ·rw[decide_eq_true ah,Bool.not_true,cond_false,cond_false]
     exact(MN m8 (k:=j) (by omega) (DO.1 ah) hm λ_ h bM m h1 D=>by
      show aB (b2 w (j:Int)) _=_;rw[be,bC];show bM (gq dj m h (bE (dN m h+n)))=bM (gq dj m h (dN m h+n));rw[g4 (by omega) (by omega)]).1
    ·rw[decide_eq_false ah];rfl)
  (λj x b5 m l n u aY be m8 hm aP=>⟨λh=>by
    show cK x.Links 0 _ _ _=_;rw[eq_nil_of_length_eq_zero h];rfl,λvQ=>ai2 m8 (by omega) vQ hm aP λ_ _ _ _=>by rw[be,bC]⟩)
  (λ(bJ:(List (aQ×Int)))=>aB (wU bJ) λ(cu:(xe))=>some (cu,(0:Int)))
 refine(congrArg (λo=>zQ o _) g6).mpr ?_;by_cases bc:nM qo z=0
 ·obtain⟨dI,ek⟩:=a2 bc;obtain⟨ob,d1,d2⟩:=ek (λ(ee:(xe))=>some (ee,(0:Int))) [] ⟨Pairwise.nil,λx=>by simp[oN],λh _=>by simp[dN,dL]⟩;rw[decide_eq_true bc,Bool.not_true,cond_false,cond_false];refine(congrArg (zQ _) d1).mpr ?_;have:=dI.len;rw[TD dI.nd (by omega) d2 (λ_=>Iff.rfl) (λ_=>rfl),bC];exact⟨_,rfl,rfl⟩
 ·rw[decide_eq_false bc];exact⟨_,rfl,rfl⟩
end
section
def acT(l:xe)(h:aQ):dN (qc l) h=((l.find? λx=>decide (hD x=h)).map (·.Count)).getD 0:=by
 unfold dN qc;rw[Nf];simp[dL]
def agw(l:xe)(aq v:Int):td l aq v=some (dN (qc l) (aQ.mk aq v)):=by
 rw[acT]
 have key:∀(l:xe) (j:Nat),cK l j (λ(au:Int) (e1:bB) (b3:Unit→kr) (af:Unit)=>match af with|()=>bif ((decide (e1.bh=aq))&&(decide (e1.aS=v)))then some e1.Count else b3 ()) (λ(af:Unit)=>match af with|()=>some (0:Int)) ()=some (((l.find? λx=>decide (hD x=aQ.mk aq v)).map (·.Count)).getD 0):=by
  intro l;induction l with
  |nil=>intro j;rfl
  |cons x r bX=>
   intro j;rw[cK,find?_cons];have e:(decide (x.bh=aq)&&decide (x.aS=v))=decide (hD x=aQ.mk aq v):=by
    rw[Bool.eq_iff_iff];simp[hD]
   rw[e];cases aa:decide (hD x=aQ.mk aq v)with
   |true=>rfl
   |false=>simp only[cond_false];exact bX (j+1)
 unfold td;exact key l 0
def Tz{H:yO}:∀(n:Nat) {v:cN},v.Pairwise (·<·)→(kN H n v).Pairwise (·<·)
 |0,_,h=>h
 |n+1,v,h=>Tz n (H9 h)
def adj{g:bu}(ai:iq g)(l:xe){d:bY}(aa:oj g d):∃w,An g (qc l) d=some (w,d.dM.all λx=>decide (x∈w))∧AQ g l d=some w∧yo g l d=some (d.dM.all λx=>decide (x∈w)):=by
 obtain⟨w,h1,D,aj⟩:=Tu ai (qc l) d;have j1:=agw l
 have yx:∀x,x∈kN (hF g (qc l) d.de) g.cn.length [d.cc]↔e9 fv (hF g (qc l) d.de) d.cc x:=λx=>
  SG (V:=ids g) aa.root (λa aI=>(DE ai (Bi.1 aI).1).2) (by simp[ids])
 have aA:kN (hF g (qc l) d.de) g.cn.length [d.cc]=w:=KY (Tz _ (by simp)) D λx=>by rw[yx,aj]
 have aC:=aa0 ai j1 d;rw[aA]at aC;refine⟨w,h1,aC,?_⟩;unfold yo;rw[aC,bC];refine(mh (λx=>!decide (x∈w)) (some false) (λj x bM s=>by rw[Cg,bC]) _ _ _).trans ?_
 have e:(d.dM.any λx=>!decide (x∈w))=!(d.dM.all λx=>decide (x∈w)):=by
  rw[List.any_eq_not_all_not];simp
 rw[e];cases d.dM.all λx=>decide (x∈w)<;>rfl
def agx(g:bu)(d:bY):sk g [d]=bif !decide (lf g=0)then 1 else q6 g d:=by
 unfold sk;by_cases h:lf g=0
 ·rw[decide_eq_true h];simp only[nM,length_singleton,show decide (12<1)=false from rfl,cond_false,Bool.not_true];by_cases D:q6 g d=0
  ·rw[decide_eq_true D,D];rfl
  ·rw[decide_eq_false D];rfl
 ·rw[decide_eq_false h];rfl
def agy(g:bu){l:xe}(aP:l.length≤100000)(d:bY):zQ (F3 g l d) (C0 g l d)∧zQ (wV g l d) (Gn g l d):=by
 unfold F3 wV Gn C0 CZ;rw[LU,GZ,agx,bC,bC,bC];by_cases ah:lf g=0
 rotate_left
 ·rw[decide_eq_false ah];exact⟨⟨_,rfl,rfl⟩,⟨_,rfl,rfl⟩⟩
 have ai:=qH.1 ah;rw[decide_eq_true ah,Bool.not_true,cond_false,cond_false,Up ai,bC];by_cases aa:q6 g d=0
 rotate_left
 ·rw[decide_eq_false aa];refine⟨⟨_,rfl,rfl⟩,⟨_,rfl,?_⟩⟩;simp only[Bool.not_false,cond_true,bC,decide_eq_false aa]
 obtain⟨w,h1,D,aj⟩:=adj ai l ((VV ai).1 aa);simp only[decide_eq_true aa,if_pos aP,bC,h1,aj,Bool.not_true,cond_false,decide_true,D];refine⟨⟨_,rfl,rfl⟩,?_⟩;cases d.dM.all λx=>decide (x∈w)<;>exact⟨_,rfl,rfl⟩
def SB(a:xe):CK a a=some true:=by
 unfold CK;rw[decide_eq_true rfl,Bool.not_true,cond_false];refine Ok.eq (axF (λ_ _=>True) (λp x r s bM fQ _ fu=>?_) _ trivial λ_ _=>Ok.s rfl);have:b2 a (p.length:Int)=some x:=eM (by rw[fQ];simp);rw[this,bC,show Hr x x=true by simp[Hr]];exact fu _ trivial
end
end
section
set_option linter.all false
open Go List
def agz{ds:Bk}{ts:Bt}(h1:ds.length≤140737488351232)(D:∀d∈ds,d.dM.length≤140737488351232)(aj:ts.length≤140737488351232)(aV:∀x∈ts,x.Links.length≤140737488351232):
  Ok (GB ds ts) λb=>b=true→ts.length≤400∧∀x∈ts,x.Links.length≤400:=by
 unfold GB;refine axH (λaf:Int×Int=>0≤af.2∧af.2≤ds.length∧0≤af.1∧af.1≤281474976710655∧(ds.length:Int)+ts.length≤af.1) (λaf=>bif decide (af.1<900)then(ds.length-af.2).toNat else 0) ⟨by omega,by simp,by simp only;rw[g4 (by omega) (by omega)];omega,by simp only;rw[g4 (by omega) (by omega)];omega,by simp only;rw[g4 (by omega) (by omega)];omega⟩ ?_ ?_
 ·simp only;rw[g4 (by omega) (by omega)];cases h:decide ((ds.length:Int)+(ts.length:Int)<900)with
  |true=>simp only[decide_eq_true_eq]at h;rw[cond_true];omega
  |false=>rw[cond_false];omega
 rintro⟨n,i⟩ bM ⟨qE,tI,vS,uX,FW⟩ fu;simp only at qE tI vS uX FW fu ⊢;refine axw (λh=>?_) λh=>?_
 ·simp only[Bool.and_eq_true,decide_eq_true_eq]at h;refine Ok.aB (nF qE h.1) λe he=>?_;have aP:=D e he.1;rw[g4 (n:=n+_) (by omega) (by omega),g4 (n:=i+1) (by omega) (by omega)];refine fu _ ⟨by simp only;omega,by simp only;omega,by simp only;omega,by simp only;omega,by simp only;omega⟩ ?_;simp only;rw[decide_eq_true h.2,cond_true];cases decide (n+(e.dM.length:Int)<900)
  ·rw[cond_false];omega
  ·rw[cond_true];omega
 refine axH (λaf:Int×Int=>0≤af.2∧af.2≤ts.length∧0≤af.1∧af.1≤281474976710655∧(ts.length:Int)≤af.1∧∀(k:Nat) x,(k:Int)<af.2→ts[k]?=some x→(x.Links.length:Int)≤af.1) (λaf=>bif decide (af.1<900)then(ts.length-af.2).toNat else 0) ⟨by omega,by simp,vS,uX,by simp only;omega,λk x hk=>by simp only at hk;omega⟩ ?_ ?_
 ·simp only;cases aa:decide (n<900)with
  |false=>rw[cond_false];omega
  |true=>
   rw[cond_true];simp only[decide_eq_true_eq]at aa;omega
 rintro⟨m,j⟩ bM ⟨au,bN,dd,hN,hO,jJ⟩ fu;simp only at au bN dd hN jJ hO fu ⊢;refine axw (λh=>?_) λh=>Ok.s λhm=>⟨by simp only[decide_eq_true_eq]at hm;omega,λx u=>?_⟩
 ·simp only[Bool.and_eq_true,decide_eq_true_eq]at h;refine Ok.aB (nF au h.1) λe he=>?_;have aP:=aV e he.1;rw[g4 (n:=m+_) (by omega) (by omega),g4 (n:=j+1) (by omega) (by omega)];refine fu _ ⟨by simp only;omega,by simp only;omega,by simp only;omega,by simp only;omega,by simp only;omega,λk x hk u=>?_⟩ ?_
  ·simp only at hk ⊢;by_cases aoI:(k:Int)<j
   ·have:=jJ k x aoI u;omega
   ·have sx:k=j.toNat:=by omega
    have:e=x:=by
     have:=he.2;rw[sx]at u;rw[u]at this;simpa using this.symm
    subst this;omega
  ·simp only;rw[decide_eq_true h.2,cond_true];cases decide (m+(e.Links.length:Int)<900)
   ·rw[cond_false];omega
   ·rw[cond_true];omega
 ·simp only[decide_eq_true_eq]at hm;obtain⟨k,hk⟩:=List.getElem?_of_mem u;have PD:=(List.getElem?_eq_some_iff.1 hk).1
  have aY:¬(j<(ts.length:Int)):=λaY=>by
   rw[decide_eq_true aY,decide_eq_true (show m<900 by omega)]at h;cases h
  have:=jJ k x (by omega) hk;omega
def ai3{t:eo}(h:kp t)(d:bY)(aP:d.dM.length≤1000):Ok (GM t d) λ_=>True:=by
 unfold GM;rw[oy (by simp;omega),bC,nil_append];refine axK (λ_=>True) (λs _=>Ok.s trivial) λJ iW=>?_;refine Ok.aB (sp h (by omega)) λv ai=>?_;refine axw (λ_=>?_) λ_=>axw (λ_=>?_) λ_=>axw (λ_=>?_) λ_=>?_
 ·exact Ok.aB (y9 ai.2 (by simp) (by simp)) λ_ _=>iW _ trivial
 ·refine Ok.aB (y9 ai.2 (by simp) (by simp)) λ_ _=>?_;rw[oy (by simp;omega),bC];exact iW _ trivial
 ·exact Ok.aB (y9 ai.2 (by simp) (by simp)) λ_ _=>iW _ trivial
 ·rw[oy (by simp;omega),bC];exact iW _ trivial
def adk{β:Type}{b:β}(g:bu)(ds:Bk){K:(Bt×Int)→Option β}(gE:∀out:Bt,out.length≤12→(∀x∈out,x.Links.length≤90000)→K (out,sk g ds)=some b):ym g ds K=some b:=by
 by_cases h:sk g ds=0
 ·obtain⟨ai,aa,aP⟩:=Na h;refine Ts ai aa aP λout r k7=>?_;rw[←h];refine gE out (by rw[k7.len];exact aP) λx u=>?_;obtain⟨i,hi⟩:=List.getElem?_of_mem u;have vI:=(List.getElem?_eq_some_iff.1 hi).1;rw[k7.len]at vI;obtain⟨sZ,r',_,Z⟩:=k7.at (List.getElem?_eq_getElem vI) hi;rcases Z with⟨Z,c,rfl,Y,_⟩|⟨rfl,_,_⟩
  ·have h1:=TU (Bo ai sZ _) Y;have D:=(aa _ (List.getElem_mem vI)).len;show Z.length≤_;omega
  ·simp
 ·unfold ym;rw[LU,bC,decide_eq_false h];exact gE [] (by simp) λx u=>by cases u
def asO(t:cN)(p:bu)(b9:Bk)(gN:Bt)(c2:xe)(e7:cN)(h1:b9.length≤140737488351232)(D:∀d∈b9,d.dM.length≤140737488351232)(aj:gN.length≤140737488351232)(aV:∀x∈gN,x.Links.length≤140737488351232):JG t p b9 gN c2 e7=some true:=by
 refine Ok.eq ?_;unfold JG;refine axK (λv:Bool=>v=false→(∀x∈gN,x.Links.length≤400)∧c2.length≤100∧gN.length≤4294967296) (λv ai=>?_) λJ iW=>?_
 rotate_left
 ·unfold JO;rw[bC];refine axw (λ_=>iW _ λh=>by cases h) λ_=>?_;refine Ok.aB (agz h1 D aj aV) λb Y=>?_;refine axw (λ_=>iW _ λh=>by cases h) λan3=>?_;have Y:=Y (by simpa using an3);refine axw (λ_=>iW _ λh=>by cases h) λaC=>iW _ λ_=>⟨Y.2,?_,by have:=Y.1;omega⟩;simp only[decide_eq_false_iff_not]at aC;omega
 refine axw (λ_=>by rw[Uo];exact Ok.s rfl) λapl=>?_;obtain⟨sE,oC,CH⟩:=ai apl;refine Ok.aB (ak4 t) λs Z=>Ok.aB (abV Z (by omega)) λq cA=>?_;obtain⟨g,t1⟩:=q;obtain⟨bQ,bU⟩:=cA;have apm:iq g:=bQ.v;have FG:=apm.A6;have m8:1≤g.cn.length:=bQ.n.1;simp only at bU ⊢;refine Ok.aB (ace (g:=g) bU (by omega) (by omega)) λq cA=>?_;obtain⟨ds,t2⟩:=q;obtain⟨⟨aa,aP⟩,AJ⟩:=cA;simp only at aa aP AJ ⊢;rw[oy (by simp;omega),bC,nil_append];refine axK (λ_=>True) (λZF _=>?_) λgv k4=>?_
 rotate_left
 ·refine axw (λh=>?_) λ_=>k4 _ trivial;simp only[decide_eq_true_eq]at h;refine Ok.aB (nF (by omega) (by omega)) λe he=>?_;refine Ok.aB (sp AJ (by omega)) λv tG=>?_;have Pr:=(aa e he.1).len;refine Ok.aB (ai3 tG.2 e (by omega)) λb _=>?_;refine Ok.aB (nF (by omega) (by omega)) λe2 oW=>?_;obtain⟨w,cZ,_⟩:=y7 (l:=ds) (i:=v.1) (x:=b.1) (by omega) (by omega);rw[cZ,bC];exact k4 _ trivial
 refine axR (λ_ _=>True) (λj y ZF bM aY ak _ fu=>?_) ZF trivial λ_ _=>by rw[Uo];exact Ok.s rfl
 refine axR (λ_ _=>True) (λj x _ gX aY u _ rA=>?_) () trivial λ_ _=>fu _ trivial;refine⟨true,adk y x λout rF pL=>?_,rfl⟩;refine Ok.eq ?_;rw[show GA y x=some (sk y x)by unfold GA;rw[MM];rfl,bC];simp only[decide_true,Bool.not_true,cond_false];rw[oy (by simp;omega),bC,nil_append];refine axK (λja:Bt=>ja.length≤12∧∀x∈ja,x.Links.length≤90000) (λja PX=>?_) λkP pF=>?_
 rotate_left
 ·refine axw (λh=>?_) λ_=>pF _ ⟨rF,pL⟩;simp only[decide_eq_true_eq]at h;refine Ok.aB (nF (by omega) (by omega)) λa aI=>?_;refine Ok.aB (nF (by omega) (by omega)) λb Y=>?_;refine Ok.aB (nF (by omega) (by omega)) λc ah=>?_;obtain⟨w,cZ,c8,_⟩:=y7 (l:=out) (i:=0) (x:=a) (by omega) (by omega);rw[cZ,bC];have FO:w.length=out.length:=by rw[c8,length_set]
  refine Ok.aB (nF (by omega) (by omega)) λd aa=>?_;obtain⟨kZ,h3,nE,_⟩:=y7 (l:=w) (i:=1) (x:=b) (by omega) (by omega);rw[h3,bC];refine pF _ ⟨by rw[nE,length_set];omega,λx u=>?_⟩;rw[nE]at u;rcases List.mem_or_eq_of_mem_set u with u|rfl
  ·rw[c8]at u;rcases List.mem_or_eq_of_mem_set u with u|rfl
   ·exact pL x u
   ·exact pL _ aI.1
  ·exact pL _ Y.1
 have al3:nk out (0:Int) (bE (Int.tdiv (out.length:Int) (2:Int)))=some (out.take (out.length / 2)):=by
  have e:bE (Int.tdiv (out.length:Int) (2:Int))=((out.length / 2:Nat):Int):=by
   rw[Int.tdiv_eq_ediv_of_nonneg (by omega),g4 (by omega) (by omega)];omega
  rw[e];obtain⟨m,cZ,c8,_⟩:=Bu (l:=out) (a:=0) (b:=((out.length / 2:Nat):Int)) ⟨by omega,by omega,by omega⟩;rw[cZ,c8,Int.toNat_natCast];rfl
 rw[al3,bC];refine axR (λ_ _=>True) (λj z _ jc aY hz _ Fs=>?_) () trivial λ_ _=>rA _ trivial;have uV:z.length≤4294967296∧∀x∈z,x.Links.length≤90000:=by
  simp only[mem_cons,not_mem_nil,or_false]at hz;rcases hz with rfl|rfl|rfl|rfl
  ·exact⟨CH,λx u=>by have:=sE x u;omega⟩
  ·exact⟨by omega,pL⟩
  ·exact⟨by omega,PX.2⟩
  ·exact⟨by rw[length_take];omega,λx u=>pL x (mem_of_mem_take u)⟩
 obtain⟨a,e1,e2,aI⟩:=aed y x uV.2;obtain⟨c,bT,fG⟩:=ai1 y x uV.2;rw[e1,bC,e2,bC];simp only[decide_true,Bool.not_true,cond_false,SB,bC,bT,fG];refine Ok.hU (by simp;omega) ?_;refine axR (λ_ _=>True) (λj w _ mb aY aA _ Pf=>?_) () trivial λ_ _=>?_
 ·obtain⟨aq,gy,g1⟩:=aef uV.2 w;rw[gy,bC,g1,bC];simp only[jn,decide_true,Bool.not_true,cond_false,SB,bC];exact Pf _ trivial
 refine axH (λk:Int=>0≤k∧k≤3) (λk=>(3-k).toNat) ⟨by omega,by omega⟩ (by omega) ?_;rintro k pq ⟨ga,bV⟩ Pg;refine axw (λh=>?_) λ_=>Fs _ trivial;simp only[Bool.and_eq_true,decide_eq_true_eq]at h;refine axR (λ_ _=>True) (λj l _ p2 aY vK _ Ph=>?_) () trivial λ_ _=>by rw[g4 (by omega) (by omega)];exact Pg _ ⟨by omega,by omega⟩ (by omega)
 have yz:l.length≤100000:=by
  simp only[mem_cons,not_mem_nil,or_false]at vK;rcases vK with rfl|rfl<;>omega
 refine Ok.aB (nF ga h.1) λd aa=>?_;obtain⟨⟨aq,g6,a2⟩,v,a3,a4⟩:=agy y yz d;rw[g6,bC,a2,bC,a3,bC,a4,bC];simp only[jn,decide_true,Bool.not_true,cond_false,Vd,bC,beq_self_eq_true];exact Ph _ trivial
end
end Go.Proofs.YtmnbolcmepihlaaGreat
