/- Several texts in one. No condition but those that stand in each. -/
import Derived.Test.YtmnbolcmepihlaaGreatZ1
import Derived.Test.YtmnbolcmepihlaaGreatZ2
import Derived.Shelf.Sort.Plain
namespace Go.Proofs.YtmnbolcmepihlaaGreat
section
set_option linter.all false
open Go List
section
structure x6(A:Type) where
 src:A→Int
 dst:A→Int
 cost:A→Int
section net
variable {A:Type}[DecidableEq A](N:x6 A)
inductive e9(H:List A):Int→Int→Prop
 |refl (v:Int):e9 H v v
 |step {aq:Int} (a:A) (aI:a∈H) (h:e9 H (N.dst a) aq):e9 H (N.src a) aq
def hu(H:List A):Int:=(H.map N.cost).sum
variable {N}
def e9.mono{H K:List A}{v aq:Int}(h:e9 N H v aq)(Z:∀a∈H,a∈K):e9 N K v aq:=by
 induction h with
 |refl v=>exact .refl v
 |step a aI _ bX=>exact .step a (Z a aI) bX
def e9.trans{H:List A}{v aq t:Int}(h:e9 N H v aq)(D:e9 N H aq t):e9 N H v t:=by
 induction h with
 |refl v=>exact D
 |step a aI _ bX=>exact .step a aI (bX D)
def e9.one{H:List A}{a:A}(aI:a∈H):e9 N H (N.src a) (N.dst a):=.step a aI (.refl _)
def adY(v:Int){H:List A}{x t:Int}(h:e9 N H x t):e9 N (H.filter λa=>!decide (N.src a=v)) x t∨∃e∈H,N.src e=v∧e9 N (H.filter λa=>!decide (N.src a=v)) (N.dst e) t:=by
 induction h with
 |refl v=>exact .inl (.refl v)
 |step a aI _ bX=>
  rcases bX with bX|bX
  ·by_cases ai:N.src a=v
   ·exact .inr ⟨a,aI,ai,bX⟩
   ·exact .inl (.step a (List.mem_filter.2 ⟨aI,by simp[ai]⟩) bX)
  ·exact .inr bX
def SI{H:List A}{v t:Int}(h:e9 N H v t)(di:v≠t):∃e∈H,N.src e=v∧e9 N (H.filter λa=>!decide (N.src a=v)) (N.dst e) t:=by
 rcases adY v h with h|h
 ·generalize u:v=x at h;cases h with
  |refl _=>exact absurd u di
  |step a aI h=>
   have:=(List.mem_filter.1 aI).2;simp at this
 ·exact h
def rj(a:A)(H:List A):hu N (a::H)=N.cost a+hu N H:=by simp[hu]
def aaO(H K:List A):hu N (H++K)=hu N H+hu N K:=by
 induction H with
 |nil=>simp[hu]
 |cons a H bX=>rw[cons_append,rj,rj,bX];omega
def Rt{H:List A}(h:∀a∈H,0≤N.cost a):0≤hu N H:=by
 induction H with
 |nil=>simp[hu]
 |cons a H bX=>
  rw[rj];have h1:=h a (by simp);have D:=bX λb Y=>h b (by simp[Y]);omega
def RL{e:A}:∀{H:List A},e∈H→hu N H=N.cost e+hu N (H.erase e)
 |[],h=>by cases h
 |a::H,h=>by
  by_cases aI:a=e
  ·subst aI;rw[erase_cons_head,rj]
  ·rw[erase_cons_tail (by simpa using aI),rj,rj,RL (H:=H) (by
    rcases mem_cons.1 h with h|h
    ·exact absurd h.symm aI
    ·exact h)]
   omega
def SC(p:A→Bool):∀(H:List A),hu N H=hu N (H.filter p)+hu N (H.filter λa=>!p a)
 |[]=>rfl
 |a::H=>by
  rw[rj,SC p H];cases aK:p a with
  |true=>rw[filter_cons_of_pos (by simp[aK]),filter_cons_of_neg (by simp[aK]),rj];omega
  |false=>rw[filter_cons_of_neg (by simp[aK]),filter_cons_of_pos (by simp[aK]),rj];omega
def Mw(p:Nat→Bool):∀k:Nat,∃m,m<2 ^ k∧∀i,m.testBit i=(decide (i<k)&&p i)
 |0=>⟨0,by simp,λi=>by simp⟩
 |k+1=>by
  obtain⟨m,h1,D⟩:=Mw p k;refine⟨m ||| (if p k then 2 ^ k else 0),Nat.or_lt_two_pow (Nat.lt_of_lt_of_le h1 (Nat.pow_le_pow_right (by omega) (by omega))) (by split;exact Nat.pow_lt_pow_right (by omega) (by omega);exact Nat.two_pow_pos _),λi=>?_⟩;rw[Nat.testBit_or,D];by_cases hi:i=k
  ·subst hi;cases aK:p i<;>simp
  ·have e:(if p k=true then 2 ^ k else 0).testBit i=false:=by
    split
    ·rw[Nat.testBit_two_pow];simp;omega
    ·simp
   rw[e];by_cases aP:i<k
   ·have:i<k+1:=by omega
    simp[aP,this]
   ·have:¬i<k+1:=by omega
    simp[aP,this]
def agS{S i:Nat}(h:S.testBit i=true):0<S:=by
 rcases Nat.eq_zero_or_pos S with bA|bA
 ·subst bA;simp at h
 ·exact bA
def RM{S:Nat}(h:0<S):∃i,S.testBit i=true:=by
 apply Classical.byContradiction;intro be
 have:S=0:=Nat.eq_of_testBit_eq λi=>by
  cases Y:S.testBit i with
  |true=>exact absurd ⟨i,Y⟩ be
  |false=>simp
 omega
def Nj{S k i:Nat}(h:S<2 ^ k)(Y:S.testBit i=true):i<k:=by
 apply Classical.byContradiction;intro be;rw[Nat.testBit_lt_two_pow (Nat.lt_of_lt_of_le h (Nat.pow_le_pow_right (by omega) (by omega)))]at Y;cases Y
def RX{S k:Nat}(fs:S<2 ^ k)(p:Nat→Bool):∃P R,P &&& R=0∧P ||| R=S∧(∀i,P.testBit i=(S.testBit i&&p i))∧∀i,R.testBit i=(S.testBit i&&!p i):=by
 obtain⟨P,_,h1⟩:=Mw (λi=>S.testBit i&&p i) k;obtain⟨R,_,D⟩:=Mw (λi=>S.testBit i&&!p i) k
 have hk:∀i,(decide (i<k)&&S.testBit i)=S.testBit i:=λi=>by
  cases Y:S.testBit i with
  |true=>simp[Nj fs Y]
  |false=>simp
 have ay:∀i,P.testBit i=(S.testBit i&&p i):=λi=>by rw[h1,←Bool.and_assoc,hk]
 have aG:∀i,R.testBit i=(S.testBit i&&!p i):=λi=>by rw[D,←Bool.and_assoc,hk]
 refine⟨P,R,Nat.eq_of_testBit_eq λi=>?_,Nat.eq_of_testBit_eq λi=>?_,ay,aG⟩
 ·rw[Nat.testBit_and,ay,aG];cases S.testBit i<;>cases p i<;>simp
 ·rw[Nat.testBit_or,ay,aG];cases S.testBit i<;>cases p i<;>simp
def y1{S P R:Nat}(bA:P &&& R=0)(h:P ||| R=S)(cz:0<R):P<S:=by
 have h1:P≤S:=by rw[←h];exact Nat.left_le_or
 rcases Nat.lt_or_eq_of_le h1 with D|D
 ·exact D
 ·obtain⟨i,hi⟩:=RM cz;have aj:(P ||| R).testBit i=P.testBit i:=by rw[h,D]
  have aV:(P &&& R).testBit i=false:=by rw[bA];simp
  rw[Nat.testBit_or,hi]at aj;rw[Nat.testBit_and,hi]at aV;simp at aj aV;rw[aV]at aj;cases aj
structure HR(N:x6 A)(L:List A)(k:Nat)(ts:Nat→Int)(C:Nat→Int→Int):Prop where
 pos:∀a∈L,0≤N.cost a
 one:∀i,i<k→C (2 ^ i) (ts i)≤0
 hop:∀S,0<S→S<2 ^ k→∀a∈L,C S (N.src a)≤N.cost a+C S (N.dst a)
 part:∀S P R,S<2 ^ k→0<P→0<R→P &&& R=0→P ||| R=S→∀v,C S v≤C P v+C R v
def HR.le{L:List A}{k:Nat}{ts:Nat→Int}{C:Nat→Int→Int}(h:HR N L k ts C):∀(n:Nat) (H:List A),H.length≤n→(∀a∈H,a∈L)→∀(S:Nat),0<S→S<2 ^ k→∀v,(∀i,S.testBit i=true→e9 N H v (ts i))→C S v≤hu N H:=by
 classical
 intro n;induction n with
 |zero=>
  intro H be fQ S;have uE:H=[]:=eq_nil_of_length_eq_zero (by omega);subst uE;induction S using Nat.strongRecOn with
  |_ S AR=>
   intro fs uG v ah;obtain⟨i,hi⟩:=RM fs;have yw:=Nj uG hi;have ai:v=ts i:=by
    have:=ah i hi;cases this with
    |refl _=>rfl
    |step a aI _=>cases aI
   obtain⟨P,R,ay,aG,a1,aW⟩:=RX uG (λj=>decide (j=i))
   have iX:P=2 ^ i:=Nat.eq_of_testBit_eq λj=>by
    rw[a1,Nat.testBit_two_pow];by_cases aY:j=i
    ·subst aY;simp[hi]
    ·have:¬i=j:=λe=>aY e.symm;simp[aY,this]
   rcases Nat.eq_zero_or_pos R with cz|cz
   ·have:S=P:=by rw[←aG,cz];simp
    rw[this,iX,ai];have:=h.one i yw;simpa [hu]using this
   ·have h1:=h.part S P R uG (by rw[iX];exact Nat.two_pow_pos _) cz ay aG v;have D:=AR R (y1 (by rw[Nat.and_comm];exact ay) (by rw[Nat.or_comm];exact aG) (by rw[iX];exact Nat.two_pow_pos _)) cz (by have:R≤S:=by{rw[←aG];exact Nat.right_le_or};omega) v (λj aY=>ah j (by rw[aW]at aY;simp at aY;exact aY.1));have aj:=h.one i yw;rw[←ai,←iX]at aj;omega
 |succ n bX=>
  intro H be fQ S;have tD:0≤hu N H:=Rt λa aI=>h.pos a (fQ a aI);induction S using Nat.strongRecOn with
  |_ S AR=>
   intro fs uG v ah;by_cases j1:∃i,S.testBit i=true∧ts i=v
   ·obtain⟨i,hi,ai⟩:=j1;have yw:=Nj uG hi;obtain⟨P,R,ay,aG,a1,aW⟩:=RX uG (λj=>decide (j=i))
    have iX:P=2 ^ i:=Nat.eq_of_testBit_eq λj=>by
     rw[a1,Nat.testBit_two_pow];by_cases aY:j=i
     ·subst aY;simp[hi]
     ·have:¬i=j:=λe=>aY e.symm;simp[aY,this]
    have aj:=h.one i yw;rw[ai,←iX]at aj;rcases Nat.eq_zero_or_pos R with cz|cz
    ·have:S=P:=by rw[←aG,cz];simp
     rw[this];omega
    ·have h1:=h.part S P R uG (by rw[iX];exact Nat.two_pow_pos _) cz ay aG v;have D:=AR R (y1 (by rw[Nat.and_comm];exact ay) (by rw[Nat.or_comm];exact aG) (by rw[iX];exact Nat.two_pow_pos _)) cz (by have:R≤S:=by{rw[←aG];exact Nat.right_le_or};omega) v (λj aY=>ah j (by rw[aW]at aY;simp at aY;exact aY.1));omega
   ·have pK:∀i,S.testBit i=true→v≠ts i:=λi hi e=>j1 ⟨i,hi,e.symm⟩;obtain⟨pO,Cx⟩:=RM fs;obtain⟨e,he,Pt,aom⟩:=SI (ah pO Cx) (pK pO Cx)
    have YN:∀a∈H.filter (λa=>!decide (N.src a=v)),a∈H.erase e:=λa aI=>by
     obtain⟨h1,D⟩:=List.mem_filter.1 aI;refine(List.mem_erase_of_ne λanS=>?_).2 h1;subst anS;simp[Pt]at D
    have apj:=aom.mono YN;have mI:∀a∈H.erase e,a∈L:=λa aI=>fQ a (List.mem_of_mem_erase aI);have eH:(H.erase e).length≤n:=by rw[length_erase_of_mem he];omega
    have Yb:=RL (N:=N) he;obtain⟨P,R,ay,aG,a1,aW⟩:=RX uG (λi=>decide (e9 N (H.erase e) (N.dst e) (ts i)));have anK:P.testBit pO=true:=by rw[a1];simp[Cx,apj]
    have Jm:=agS anK;rcases Nat.eq_zero_or_pos R with cz|cz
    ·have h1:=bX (H.erase e) eH mI S fs uG (N.dst e) (λi hi=>by
      have cA:=aW i;rw[cz,hi]at cA;simp at cA;exact cA)
     have D:=h.hop S fs uG e (fQ e he);rw[Pt]at D;omega
    ·let q:A→Bool:=λa=>decide (e9 N (H.erase e) (N.dst e) (N.src a))
     have Jl:P<S:=y1 ay aG cz;have Fo:R<S:=y1 (by rw[Nat.and_comm];exact ay) (by rw[Nat.or_comm];exact aG) Jm
     have stay:∀{x t:Int},e9 N (H.erase e) x t→e9 N (H.erase e) (N.dst e) x→e9 N ((H.erase e).filter q) x t:=λ{x t} u=>by
      induction u with
      |refl v=>intro _;exact .refl v
      |step a aI _ bX=>intro cF;exact .step a (List.mem_filter.2 ⟨aI,decide_eq_true cF⟩) (bX (cF.trans (.one aI)))
     have off:∀{x t:Int},e9 N (H.erase e) x t→¬e9 N (H.erase e) (N.dst e) t→e9 N ((H.erase e).filter λa=>!q a) x t:=λ{x t} u=>by
      induction u with
      |refl v=>intro _;exact .refl v
      |step a aI aC bX=>
       intro cF;refine .step a (List.mem_filter.2 ⟨aI,?_⟩) (bX cF);have:¬e9 N (H.erase e) (N.dst e) (N.src a):=λcA=>cF (cA.trans (.step a aI aC));simp only[q,this,decide_false,Bool.not_false]
     have h1:=h.part S P R uG Jm cz ay aG v;have oZ:=SC (N:=N) q (H.erase e);have aV:hu N (e::(H.erase e).filter q)=N.cost e+hu N ((H.erase e).filter q):=rj _ _;have D:C P v≤hu N (e::(H.erase e).filter q):=by
      by_cases YY:(e::(H.erase e).filter q).length≤n
      ·refine bX _ YY (λa aI=>?_) P Jm (by omega) v λi hi=>?_
       ·rcases mem_cons.1 aI with rfl|aI
        ·exact fQ _ he
        ·exact mI a (List.mem_filter.1 aI).1
       ·rw[a1]at hi;simp only[Bool.and_eq_true,decide_eq_true_eq]at hi;rw[←Pt];exact .step e (by simp) ((stay hi.2 (.refl _)).mono λa aI=>mem_cons.2 (.inr aI))
      ·
       have k5:hu N ((H.erase e).filter q)=hu N (H.erase e):=by
        have Cw:=length_filter_le q (H.erase e);have oW:=length_erase_of_mem he;have hle:(H.erase e).length≤((H.erase e).filter q).length:=by
         simp only[length_cons]at YY;omega
        rw[List.filter_eq_self.2 (length_filter_eq_length_iff.1 (by omega))]
       have b4:=AR P Jl Jm (by omega) v (λi hi=>ah i (by rw[a1]at hi;simp at hi;exact hi.1));omega
     have aj:C R v≤hu N ((H.erase e).filter λa=>!q a):=by
      refine bX _ (Nat.le_trans (length_filter_le _ _) eH) (λa aI=>mI a (List.mem_filter.1 aI).1) R cz (by omega) v λi hi=>?_;rw[aW]at hi;simp only[Bool.and_eq_true,Bool.not_eq_true',decide_eq_false_iff_not]at hi;obtain⟨e2,uD,w1,rz⟩:=SI (ah i hi.1) (pK i hi.1);have w2:=rz.mono YN;have di:e2≠e:=λh=>by subst h;exact hi.2 w2
      have yp:e2∈H.erase e:=(List.mem_erase_of_ne di).2 uD;refine off ?_ hi.2;rw[←w1];exact .step e2 yp w2
     omega
end net
end
section
section net2
variable {A:Type}[DecidableEq A]{N:x6 A}
inductive mV(N:x6 A)(L:List A)(k:Nat)(ts:Nat→Int):Nat→Int→List A→Prop
 |one (i:Nat):i<k→mV N L k ts (2 ^ i) (ts i) []
 |hop {S:Nat} {H:List A} (a:A):a∈L→mV N L k ts S (N.dst a) H→mV N L k ts S (N.src a) (a::H)
 |part {P R:Nat} {v:Int} {H K:List A}:P &&& R=0→mV N L k ts P v H→mV N L k ts R v K→mV N L k ts (P ||| R) v (H++K)
def mV.sub{L:List A}{k:Nat}{ts:Nat→Int}{S:Nat}{v:Int}{H:List A}(h:mV N L k ts S v H):∀a∈H,a∈L:=by
 induction h with
 |one i _=>intro a aI;cases aI
 |hop a aI _ bX=>
  intro b Y;rcases mem_cons.1 Y with rfl|Y
  ·exact aI
  ·exact bX b Y
 |part _ _ _ h1 D=>
  intro b Y;rcases List.mem_append.1 Y with Y|Y
  ·exact h1 b Y
  ·exact D b Y
def mV.qu{L:List A}{k:Nat}{ts:Nat→Int}{S:Nat}{v:Int}{H:List A}(h:mV N L k ts S v H):∀i,S.testBit i=true→e9 N H v (ts i):=by
 induction h with
 |one i _=>
  intro j aY;rw[Nat.testBit_two_pow]at aY;have:i=j:=by simpa using aY
  subst this;exact .refl _
 |hop a aI _ bX=>exact λi hi=>.step a (by simp) ((bX i hi).mono λb Y=>mem_cons.2 (.inr Y))
 |part _ _ _ h1 D=>
  intro i hi;rw[Nat.testBit_or,Bool.or_eq_true]at hi;rcases hi with hi|hi
  ·exact(h1 i hi).mono λb Y=>List.mem_append.2 (.inl Y)
  ·exact(D i hi).mono λb Y=>List.mem_append.2 (.inr Y)
structure mT(N:x6 A)(L:List A)(T:Int→Prop)(v:Int)(H:List A):Prop where
 sub:∀a∈H,a∈L
 pos:∀a∈L,0<N.cost a
 qu:∀t,T t→e9 N H v t
 min:∀K,(∀a∈K,a∈L)→(∀t,T t→e9 N K v t)→hu N H≤hu N K
variable {L:List A}{T:Int→Prop}{v:Int}{H:List A}
def mT.need(h:mT N L T v H){a:A}(aI:a∈H)(ah:∀t,T t→e9 N (H.erase a) v t):False:=by
 have h1:=h.min (H.erase a) (λb Y=>h.sub b (List.mem_of_mem_erase Y)) ah;have D:=RL (N:=N) aI;have aj:=h.pos a (h.sub a aI);omega
def mT.once(h:mT N L T v H){a:A}(aI:a∈H):a∉H.erase a:=λD=>h.need aI λt bU=>(h.qu t bU).mono λb Y=>by
 by_cases Ax:b=a
 ·rw[Ax];exact D
 ·exact(List.mem_erase_of_ne Ax).2 Y
def aaP:∀{H:List A},(∀a∈H,a∉H.erase a)→H.Nodup
 |[],_=>nodup_nil
 |a::H,h=>by
  have aI:a∉H:=by have:=h a (by simp);rwa [erase_cons_head]at this
  refine nodup_cons.2 ⟨aI,aaP λb Y gr=>?_⟩;have jH:a≠b:=λe=>aI (e▸Y);refine h b (mem_cons.2 (.inr Y)) ?_;rw[erase_cons_tail (by simpa using jH)];exact mem_cons.2 (.inr gr)
def mT.nodup(h:mT N L T v H):H.Nodup:=aaP λ_ aI=>h.once aI
def mT.Kx(h:mT N L T v H){a:A}(aI:a∈H):e9 N H v (N.src a):=by
 apply Classical.byContradiction;intro be;refine h.need aI λt bU=>?_
 have:∀{x t:Int},e9 N H x t→e9 N H v x→e9 N (H.erase a) x t:=λ{x t} u=>by
  induction u with
  |refl v=>intro _;exact .refl v
  |step b Y _ bX=>
   intro ai;have Ax:b≠a:=λe=>by subst e;exact be ai
   exact .step b ((List.mem_erase_of_ne Ax).2 Y) (bX (ai.trans (.one Y)))
 exact this (h.qu t bU) (.refl v)
def SD{a:A}(ah:e9 N (H.erase a) v (N.dst a)){t:Int}(h:e9 N H v t):e9 N (H.erase a) v t:=by
 have:∀{x t:Int},e9 N H x t→e9 N (H.erase a) x t∨e9 N (H.erase a) (N.dst a) t:=λ{x t} u=>by
  induction u with
  |refl v=>exact .inl (.refl v)
  |step b Y _ bX=>
   rcases bX with bX|bX
   ·by_cases Ax:b=a
    ·subst Ax;exact .inr bX
    ·exact .inl (.step b ((List.mem_erase_of_ne Ax).2 Y) bX)
   ·exact .inr bX
 rcases this h with h|h
 ·exact h
 ·exact ah.trans h
def T7{x y:Int}(h:e9 N H x y):x=y∨∃e∈H,N.dst e=y∧e9 N (H.filter λa=>!decide (N.dst a=y)) x (N.src e):=by
 induction h with
 |refl v=>exact .inl rfl
 |@step aq a aI aC bX=>
  by_cases ak:N.dst a=aq
  ·exact .inr ⟨a,aI,ak,.refl _⟩
  ·rcases bX with bX|⟨e,h1,D,aj⟩
   ·exact absurd bX ak
   ·exact .inr ⟨e,h1,D,.step a (List.mem_filter.2 ⟨aI,by simp[ak]⟩) aj⟩
def mT.root(h:mT N L T v H){a:A}(aI:a∈H):N.dst a≠v:=λe=>h.need aI λt bU=>SD (by rw[e];exact .refl v) (h.qu t bU)
def mT.dst(h:mT N L T v H){a b:A}(aI:a∈H)(Y:b∈H)(he:N.dst a=N.dst b):a=b:=by
 apply Classical.byContradiction;intro jH;have ak:e9 N H v (N.dst a):=(h.Kx aI).trans (.one aI);rcases T7 ak with h1|⟨e,h1,D,aj⟩
 ·exact h.root aI h1.symm
 ·have free:∀c,c∈H→N.dst c=N.dst a→e≠c→False:=λc ah aa aog=>by
   refine h.need ah λt bU=>SD ?_ (h.qu t bU);rw[aa]
   have hm:e9 N (H.erase c) v (N.src e):=aj.mono λx u=>by
    obtain⟨HA,BK⟩:=List.mem_filter.1 u;refine(List.mem_erase_of_ne λapv=>?_).2 HA;subst apv;simp[aa]at BK
   have oW:e∈H.erase c:=(List.mem_erase_of_ne aog).2 h1;have:=hm.trans (.one oW);rw[D]at this;exact this
  by_cases YL:e=a
  ·exact free b Y he.symm (λaof=>jH (YL.symm.trans aof))
  ·exact free a aI rfl YL
end net2
end
end
section
set_option linter.all false
open Go List
section
noncomputable instance aup:DecidableEq bW:=λ_ _=>Classical.propDecidable _
def fv:x6 bW:=⟨λa=>a.Hop.bh,λa=>a.Hop.aS,λa=>a.hM⟩
structure pR(a8:List bW):Prop where
 cost:∀a∈a8,1≤a.hM∧a.hM≤1000
 to:∀a∈a8,a.Hop.aS≠0
 hop:∀a∈a8,∀b∈a8,a.Hop=b.Hop→a=b
 len:a8.length≤1000
structure rX(a8:List bW)(root:Int)(ts:List Int)(Z:List aQ)(c:Int):Prop where
 ex:∃gu:yO,mT fv a8 (λt=>t∈ts) root gu∧hu fv gu=c∧Z.Perm (gu.map (·.Hop))
 mB:Z.Pairwise λa b=>gD [λx:aQ=>x.bh,λx:aQ=>x.aS] a b<0
def x4(a8:yO)(root:Int)(ts:cN)(r:Es×Int×Bool):Prop:=(r.2.2=true∧rX a8 root ts r.1 r.2.1)∨(r=([],0,false)∧¬∀t,t∈ts→e9 fv a8 root t)
noncomputable def CY{β:Type}(a8:yO)(root:Int)(ts:cN)(K:(Es×Int×Bool)→Option β):Option β:=@ite _ (pR a8∧ts.length≤6) (Classical.propDecidable _) (ES (x4 a8 root ts) K) none
end
section
def wU(m:List (aQ×Int)):Option (List bB):=if m.length≤100000 then o4 (gD [λx:bB=>x.bh,λx:bB=>x.aS]) (m.map λp=>bB.mk p.1.bh p.1.aS p.2)else none
def qc(l:xe):List (aQ×Int):=l.reverse.foldl (λm x=>gq dj m (aQ.mk x.bh x.aS) x.Count) []
def CZ(l:xe):Option (List (aQ×Int)):=if l.length≤100000 then some (qc l)else none
end
end
section
open Go List
set_option maxRecDepth 100000
set_option linter.all false
section
noncomputable section
def GD(n:Int):ko:=
 some ((decide (1≤n))&&(decide (n≤1000)))
def AW(t:bu)(kk:Int):ko:=
 cK t.cn 0 (λ(au:Int) (e1:fe) (b3:Unit→Option _) ()=>bif decide (e1.eR=kk)then some true else b3 ()) (λ(af:Unit)=>match af with|()=>some false) ()
def GF(t:bu)(ht:Int)(g5:Int):Option (Int×Bool):=
 cK t.Links 0 (λ(au:Int) (e1:dJ) (b3:Unit→Option _) ()=>bif ((decide (e1.A=ht))&&(decide (e1.B=g5)))then some (e1.ki,true)else bif ((decide (e1.B=ht))&&(decide (e1.A=g5)))then some (e1.lJ,true)else b3 ()) (λ(af:Unit)=>match af with|()=>some ((0:Int),false)) ()
def wX(t:bu):kr:=
 bif ((decide (24<(t.cn.length:Int)))||(decide (60<(t.Links.length:Int))))then some (3:Int)else cK t.cn 0 (λ(au:Int) (e1:fe) (b3:Unit→Option _) ()=>bif ((decide (e1.eR<1))||(decide (99<e1.eR)))then some (2:Int)else b3 ()) (λ(af:Unit)=>match af with|()=>cK (List.drop 1 t.cn) 1 (λ(bN:Int) (e2:fe) (gX:Unit→Option _) ()=>aB (b2 t.cn (bE ((bN:Int)-(1:Int)))) λ(cr:fe)=>bif decide (e2.eR≤cr.eR)then some (25:Int)else gX ()) (λ(af:Unit)=>match af with|()=>cK t.Links 0 (λ(dd:Int) (bT:dJ) (jc:Unit→Option _) ()=>jn (λ(eL:Bool)=>bif eL then some (2:Int)else jc ()) λdx=>aB (GD bT.ki) λ(aJ:Bool)=>(bif !aJ then dx true else aB (GD bT.lJ) λ(bq:Bool)=>(bif !bq then dx true else(bif decide (bT.lS<0)then dx true else dx (decide (1000<bT.lS)))))) (λ(af:Unit)=>match af with|()=>cK t.Links 0 (λ(hN:Int) (fG:dJ) (mb:Unit→Option _) ()=>jn (λ(iz:Bool)=>bif iz then some (4:Int)else mb ()) λgv=>aB (AW t fG.A) λ(cu:Bool)=>(bif !cu then gv true else aB (AW t fG.B) λ(eg:Bool)=>gv (!eg))) (λ(af:Unit)=>match af with|()=>cK t.Links 0 (λ(jJ:Int) (gy:dJ) (pq:Unit→Option _) ()=>bif decide (gy.B≤gy.A)then some (8:Int)else pq ()) (λ(af:Unit)=>match af with|()=>cK (List.drop 1 t.Links) 1 (λ(hO:Int) (g1:dJ) (p2:Unit→Option _) ()=>aB (b2 t.Links (bE ((hO:Int)-(1:Int)))) λ(e6:dJ)=>bif ((decide (g1.A<e6.A))||((decide (e6.A=g1.A))&&(decide (g1.B≤e6.B))))then some (25:Int)else p2 ()) (λ(af:Unit)=>match af with|()=>some (0:Int)) ()) ()) ()) ()) ()) ()
end
end
section
noncomputable section
def AX(t:bu)(kk:Int):ko:=
 aB (wX t) λ(aJ:Int)=>(bif decide (aJ=0)then aB (AW t kk) λ(bq:Bool)=>some bq else some false)
def C9(t:bu)(ht:Int)(g5:Int):Option (Int×Bool):=
 aB (wX t) λ(aJ:Int)=>bif !decide (aJ=0)then some ((0:Int),false)else aB (GF t ht g5) λ(bq:Int×Bool)=>some (bq.1,bq.2)
end
end
section
noncomputable section
def wY(dD:Int):ko:=
 some (!decide (dD=dD))
def pt(dD:Int)(y:Int):kr:=
 aB (wY dD) λ(aJ:Bool)=>aB (wY y) λ(bq:Bool)=>bif aJ then bif bq then some (0:Int)else some (-1:Int)else bif bq then some (1:Int)else bif decide (dD<y)then some (-1:Int)else bif decide (y<dD)then some (1:Int)else some (0:Int)
def tb(gR:cN):kr:=
 cK gR 0 (λ(au:Int) (e1:Int) (b3:Unit→Option _) ()=>bif !decide (e1=0)then some e1 else b3 ()) (λ(af:Unit)=>match af with|()=>some (0:Int)) ()
def E5(dD:G5)(target:dJ)(us:dJ→dJ→kr):Option (Int×Bool):=
 jb (λ(b3:(Int×Int)→Option _) (cI,gJ)=>bif decide (cI<gJ)then aB (b2 dD (bE (Int.fdiv (IntKind.wrap .u64 (bE (cI+gJ))) (2 ^ min (1:Int).toNat 64)))) λ(cr:dJ)=>aB (us cr target) λ(aJ:Int)=>bif decide (aJ<0)then b3 (bE ((bE (Int.fdiv (IntKind.wrap .u64 (bE (cI+gJ))) (2 ^ min (1:Int).toNat 64)))+(1:Int)),gJ)else b3 (cI,bE (Int.fdiv (IntKind.wrap .u64 (bE (cI+gJ))) (2 ^ min (1:Int).toNat 64)))else(bif decide (cI<(dD.length:Int))then aB (b2 dD cI) λ(e6:dJ)=>aB (us e6 target) λ(bq:Int)=>some (cI,decide (bq=0))else some (cI,false))) ((0:Int),(dD.length:Int))
def Cl(dD:HC)(target:Int)(us:fe→Int→kr):Option (Int×Bool):=
 jb (λ(b3:(Int×Int)→Option _) (cI,gJ)=>bif decide (cI<gJ)then aB (b2 dD (bE (Int.fdiv (IntKind.wrap .u64 (bE (cI+gJ))) (2 ^ min (1:Int).toNat 64)))) λ(cr:fe)=>aB (us cr target) λ(aJ:Int)=>bif decide (aJ<0)then b3 (bE ((bE (Int.fdiv (IntKind.wrap .u64 (bE (cI+gJ))) (2 ^ min (1:Int).toNat 64)))+(1:Int)),gJ)else b3 (cI,bE (Int.fdiv (IntKind.wrap .u64 (bE (cI+gJ))) (2 ^ min (1:Int).toNat 64)))else(bif decide (cI<(dD.length:Int))then aB (b2 dD cI) λ(e6:fe)=>aB (us e6 target) λ(bq:Int)=>some (cI,decide (bq=0))else some (cI,false))) ((0:Int),(dD.length:Int))
def JE(fE:cN)(v:Int):kr:=
 cK fE 0 (λ(au:Int) (e1:Int) (b3:Unit→Option _) ()=>bif decide (v=e1)then some (au:Int)else b3 ()) (λ(af:Unit)=>match af with|()=>some (-1:Int)) ()
def Ji(fE:HC)(f:fe→ko):kr:=
 cK fE 0 (λ(au:Int) (e1:fe) (b3:Unit→Option _) ()=>aB (f e1) λ(aJ:Bool)=>bif aJ then some (au:Int)else b3 ()) (λ(af:Unit)=>match af with|()=>some (-1:Int)) ()
def Jg(fE:G5)(f:dJ→ko):kr:=
 cK fE 0 (λ(au:Int) (e1:dJ) (b3:Unit→Option _) ()=>aB (f e1) λ(aJ:Bool)=>bif aJ then some (au:Int)else b3 ()) (λ(af:Unit)=>match af with|()=>some (-1:Int)) ()
def Jf(fE:yO)(f:bW→ko):kr:=
 cK fE 0 (λ(au:Int) (e1:bW) (b3:Unit→Option _) ()=>aB (f e1) λ(aJ:Bool)=>bif aJ then some (au:Int)else b3 ()) (λ(af:Unit)=>match af with|()=>some (-1:Int)) ()
def Fc(fE:cN)(v:Int):ko:=
 aB (JE fE v) λ(aJ:Int)=>some (decide (0≤aJ))
def E9(fE:HC)(f:fe→ko):ko:=
 aB (Ji fE f) λ(aJ:Int)=>some (decide (0≤aJ))
def z7(fE:G5)(f:dJ→ko):ko:=
 aB (Jg fE f) λ(aJ:Int)=>some (decide (0≤aJ))
def yI(n:Int)(oF:Int)(mw:Int):ko:=
 some ((decide (oF≤n))&&(decide (n≤mw)))
def Cu(a:dJ)(b:dJ):kr:=
 aB (pt a.A b.A) λ(aJ:Int)=>aB (pt a.B b.B) λ(bq:Int)=>aB (tb ([aJ,bq]:cN)) λ(cu:Int)=>some cu
def CS(lD:fe)(id:Int):kr:=
 aB (pt lD.eR id) λ(aJ:Int)=>some aJ
def J1(lD:fe):ko:=
 aB (yI lD.eR (1:Int) (99:Int)) λ(aJ:Bool)=>some (!aJ)
def F9(l:dJ):ko:=
 aB (yI l.ki (1:Int) (1000:Int)) λ(aJ:Bool)=>(bif !aJ then some true else aB (yI l.lJ (1:Int) (1000:Int)) λ(bq:Bool)=>(bif !bq then some true else aB (yI l.lS (0:Int) (1000:Int)) λ(cu:Bool)=>some (!cu)))
def CL(id:Int)(nY:bu):ko:=
 aB (Cl nY.cn id CS) λ(aJ:Int×Bool)=>some (!aJ.2)
def J3(l:dJ)(nY:bu):ko:=
 aB (CL l.A nY) λ(aJ:Bool)=>(bif aJ then some true else aB (CL l.B nY) λ(bq:Bool)=>some bq)
def J4(l:dJ):ko:=
 some (decide (l.B≤l.A))
def Aj(t:bu):kr:=
 bif ((decide (24<(t.cn.length:Int)))||(decide (60<(t.Links.length:Int))))then some (3:Int)else aB (E9 t.cn J1) λ(aJ:Bool)=>bif aJ then some (2:Int)else cK t.cn 0 (λ(au:Int) (e1:fe) (b3:Unit→Option _) ()=>jn (λ(eL:Bool)=>bif eL then some (25:Int)else b3 ()) λdx=>(bif decide (0<(au:Int))then aB (b2 t.cn (bE ((au:Int)-(1:Int)))) λ(cr:fe)=>dx (decide (e1.eR≤cr.eR))else dx false)) (λ(af:Unit)=>match af with|()=>aB (z7 t.Links F9) λ(bq:Bool)=>bif bq then some (2:Int)else aB (z7 t.Links (λ(j6:dJ)=>J3 j6 t)) λ(cu:Bool)=>bif cu then some (4:Int)else aB (z7 t.Links J4) λ(eg:Bool)=>bif eg then some (8:Int)else cK t.Links 0 (λ(bN:Int) (e2:dJ) (gX:Unit→Option _) ()=>jn (λ(iz:Bool)=>bif iz then some (25:Int)else gX ()) λgv=>(bif decide (0<(bN:Int))then aB (b2 t.Links (bE ((bN:Int)-(1:Int)))) λ(e6:dJ)=>aB (Cu e6 e2) λ(dQ:Int)=>gv (decide (0≤dQ))else gv false)) (λ(af:Unit)=>match af with|()=>some (0:Int)) ()) ()
def CX(t:bu):ko:=
 aB (Aj t) λ(aJ:Int)=>some (decide (aJ=0))
def Gh(t:bu)(qI:Int):Option (fe×Bool):=
 aB (Cl t.cn qI CS) λ(aJ:Int×Bool)=>bif !aJ.2 then some ((fe.mk (0:Int) false),false)else aB (b2 t.cn aJ.1) λ(cr:fe)=>some (cr,true)
def CU(t:bu)(qI:Int):ko:=
 aB (Gh t qI) λ(aJ:fe×Bool)=>aB (CX t) λ(bq:Bool)=>(bif bq then some aJ.2 else some false)
def CT(t:bu)(ht:Int)(g5:Int):Option (Int×Bool):=
 aB (CX t) λ(aJ:Bool)=>bif !aJ then some ((0:Int),false)else aB (E5 t.Links (dJ.mk (if g5<ht then g5 else ht) (if g5>ht then g5 else ht) (0:Int) (0:Int) (0:Int)) Cu) λ(bq:Int×Bool)=>bif !bq.2 then some ((0:Int),false)else bif decide (ht<g5)then aB (b2 t.Links bq.1) λ(cr:dJ)=>some (cr.ki,true)else aB (b2 t.Links bq.1) λ(e6:dJ)=>some (e6.lJ,true)
end
end
section
noncomputable section
def QK(dD:Int):kr:=
 jn (λ(af:Int×Int)=>match af with|(aJ,jL)=>jn (λ(af:Int×Int)=>match af with|(bq,mx)=>jn (λ(af:Int×Int)=>match af with|(cu,Db)=>aB (Qi (⟨#[0,1,2,2,3,3,3,3,4,4,4,4,4,4,4,4,5,5,5,5,5,5,5,5,5,5,5,5,5,5,5,5,6,6,6,6,6,6,6,6,6,6,6,6,6,6,6,6,6,6,6,6,6,6,6,6,6,6,6,6,6,6,6,6,7,7,7,7,7,7,7,7,7,7,7,7,7,7,7,7,7,7,7,7,7,7,7,7,7,7,7,7,7,7,7,7,7,7,7,7,7,7,7,7,7,7,7,7,7,7,7,7,7,7,7,7,7,7,7,7,7,7,7,7,7,7,7,7,8,8,8,8,8,8,8,8,8,8,8,8,8,8,8,8,8,8,8,8,8,8,8,8,8,8,8,8,8,8,8,8,8,8,8,8,8,8,8,8,8,8,8,8,8,8,8,8,8,8,8,8,8,8,8,8,8,8,8,8,8,8,8,8,8,8,8,8,8,8,8,8,8,8,8,8,8,8,8,8,8,8,8,8,8,8,8,8,8,8,8,8,8,8,8,8,8,8,8,8,8,8,8,8,8,8,8,8,8,8,8,8,8,8,8,8,8,8,8,8,8,8,8,8,8,8,8,8]⟩:ByteArray) (IntKind.wrap .u8 cu)) λ(I7:UInt8)=>some (bE (Db+(bE (I7.toNat:Int))))) λkP=>bif decide (256≤bq)then kP (Int.fdiv bq (2 ^ min (8:Int).toNat 64),bE (mx+8))else kP (bq,mx)) λgv=>bif decide (65536≤aJ)then gv (Int.fdiv aJ (2 ^ min (16:Int).toNat 64),bE (jL+16))else gv (aJ,jL)) λdx=>bif decide (4294967296≤dD)then dx (Int.fdiv dD (2 ^ min (32:Int).toNat 64),(32:Int))else dx (dD,(0:Int))
def QW(dD:Int):kr:=
 aB (QK dD) λ(aJ:Int)=>some aJ
def O1: Option Unit:=
 jb (λ(b3:Unit→Option _) ()=>some ()) ()
def Qh(Gq:Int):Option Unit:=
 jb (λ(b3:Unit→Option _) ()=>aB (O1) λ(aJ:Unit)=>some ()) ()
def ZD: Option Unit:=
 aB (QW (0:Int)) λ(aJ:Int)=>aB (Qh aJ) λ(bq:Unit)=>some ()
end
end
section
noncomputable section
def F7(t:cN):Option eo:=
 aB (nk t (0:Int) (if(2000:Int)<(t.length:Int)then(2000:Int)else(t.length:Int))) λ(dk:cN)=>some (eo.mk dk (0:Int))
def Ff(t:eo):Option (Int×eo):=
 bif decide ((t.L.length:Int)≤t.At)then some ((0:Int),t)else aB (b2 t.L (bE ((bE (t.At+1))-(1:Int)))) λ(cr:Int)=>some (cr,(eo.mk t.L (bE (t.At+1))))
def F8(dD:Int)(n:Int):kr:=
 bif decide (n<1)then some (0:Int)else hU (decide (n≠0))<|jn (λ(aJ:Int)=>some aJ) λdx=>bif decide (Int.tmod dD n<0)then dx (bE ((Int.tmod dD n)+n))else dx (Int.tmod dD n)
def ot(t:eo)(n:Int):Option (Int×eo):=
 aB (Ff t) λ(aJ:Int×eo)=>aB (F8 aJ.1 n) λ(bq:Int)=>some (bq,aJ.2)
def Ad(t:eo)(lo:Int)(hi:Int):Option (Int×eo):=
 aB (ot t (bE ((bE (hi-lo))+(1:Int)))) λ(aJ:Int×eo)=>some (bE (lo+aJ.1),aJ.2)
def s9(t:eo)(l:cN):Option (Int×eo):=
 aB (ot t (l.length:Int)) λ(aJ:Int×eo)=>aB (b2 l aJ.1) λ(cr:Int)=>some (cr,aJ.2)
def q7(l:cN)(en:Int):ko:=
 cK l 0 (λ(au:Int) (e1:Int) (b3:Unit→Option _) ()=>bif decide (e1=en)then some true else b3 ()) (λ(af:Unit)=>match af with|()=>some false) ()
def uy(l:cN)(en:Int):tc:=
 jb (λ(b3:Int→Option _) (hw:Int)=>jn (λ(eL:Bool)=>bif eL then b3 (bE (hw+1))else jn (λ(iz:Bool)=>bif iz then some l else aB (nk l hw (l.length:Int)) λ(dk:cN)=>aB (jf ([en]:cN) dk) λ(iD:cN)=>aB (nk l (0:Int) hw) λ(kL:cN)=>aB (jf kL iD) λ(pW:cN)=>some pW) λgv=>(bif decide (hw<(l.length:Int))then aB (b2 l hw) λ(e6:Int)=>gv (decide (e6=en))else gv false)) λdx=>(bif decide (hw<(l.length:Int))then aB (b2 l hw) λ(cr:Int)=>dx (decide (cr<en))else dx false)) (0:Int)
def CM(a:cN)(b:cN):ko:=
 bif !decide ((a.length:Int)=(b.length:Int))then some false else cK a 0 (λ(au:Int) (e1:Int) (b3:Unit→Option _) ()=>aB (b2 b (au:Int)) λ(cr:Int)=>bif !decide (e1=cr)then some false else b3 ()) (λ(af:Unit)=>match af with|()=>some true) ()
end
end
section
noncomputable section
def CV(n:Int):ko:=
 some ((decide (1≤n))&&(decide (n≤99)))
def Ah(t:bR):kr:=
 aB (CV t.cc) λ(aJ:Bool)=>cK t.Links 0 (λ(au:Int) (e1:aQ) (b3:Bool→Option _) (xY:Bool)=>(bif xY then aB (CV e1.bh) λ(bq:Bool)=>(bif bq then aB (CV e1.aS) λ(cu:Bool)=>b3 cu else b3 false)else b3 false)) (λ(xY:Bool)=>bif !xY then some (2:Int)else cK (List.drop 1 t.Links) 1 (λ(bN:Int) (e2:aQ) (gX:Unit→Option _) ()=>aB (b2 t.Links (bE ((bN:Int)-(1:Int)))) λ(cr:aQ)=>bif ((decide (e2.bh<cr.bh))||((decide (cr.bh=e2.bh))&&(decide (e2.aS≤cr.aS))))then some (25:Int)else gX ()) (λ(af:Unit)=>match af with|()=>cK t.Links 0 (λ(dd:Int) (bT:aQ) (jc:Unit→Option _) ()=>aB (nk t.Links (0:Int) (dd:Int)) λ(dk:Es)=>cK dk 0 (λ(hN:Int) (fG:aQ) (mb:Unit→Option _) ()=>bif decide (fG.aS=bT.aS)then some (8:Int)else mb ()) (λ(af:Unit)=>match af with|()=>bif decide (bT.aS=t.cc)then some (8:Int)else jc ()) ()) (λ(af:Unit)=>match af with|()=>jb (λ(pq:((cN)×Bool)→Option _) (A2,sH)=>bif sH then cK t.Links 0 (λ(hO:Int) (g1:aQ) (p2:((cN)×Bool)→Option _) (ri,nC)=>jn (λ(af:(cN)×Bool)=>match af with|(Dj,oV)=>p2 (Dj,oV)) λdx=>jn (λ(eL:Bool)=>bif eL then aB (jf ri ([g1.aS]:cN)) λ(iD:cN)=>dx (iD,true)else dx (ri,nC)) λgv=>aB (q7 ri g1.bh) λ(eg:Bool)=>(bif eg then aB (q7 ri g1.aS) λ(dQ:Bool)=>gv (!dQ)else gv false)) (λ(af:(cN)×Bool)=>match af with|(ri,nC)=>pq (ri,nC)) (A2,false)else cK t.Links 0 (λ(l0:Int) (jN:aQ) (BV:Unit→Option _) ()=>aB (q7 A2 jN.bh) λ(dF:Bool)=>bif !dF then some (10:Int)else BV ()) (λ(af:Unit)=>match af with|()=>some (0:Int)) ()) (([t.cc]:cN),true)) ()) ()) aJ
def Gj(t:bR):tc:=
 aB (Ah t) λ(aJ:Int)=>bif !decide (aJ=0)then some []else cK t.Links 0 (λ(au:Int) (e1:aQ) (b3:(cN)→Option _) (ee:(cN))=>aB (uy ee e1.aS) λ(bq:(cN))=>b3 bq) (λ(ee:(cN))=>some ee) ([t.cc]:cN)
def CJ(l:cN):ko:=
 cK (List.drop 1 l) 1 (λ(au:Int) (e1:Int) (b3:Unit→Option _) ()=>aB (b2 l (bE ((au:Int)-(1:Int)))) λ(cr:Int)=>bif decide (e1≤cr)then some false else b3 ()) (λ(af:Unit)=>match af with|()=>some true) ()
end
end
section
noncomputable section
def Gs(t:eo)(mw:Int):Option (bu×eo):=
 aB (Ad t (1:Int) mw) λ(aJ:Int×eo)=>hU (decide (aJ.1≤9223372036854775807))<|l5 (aJ.1-0).toNat (0:Int) (λ(au:Int) (b3:(Int×(HC)×(cN)×Int)→Option _) (wN,bJ,c6,et)=>aB (s9 (eo.mk c6 et) ([(1:Int),(1:Int),(1:Int),(2:Int),(5:Int)]:cN)) λ(bq:Int×eo)=>aB (jf bJ ([(fe.mk (bE (wN+bq.1)) true)]:HC)) λ(dk:HC)=>b3 (bE (wN+bq.1),dk,bq.2.L,bq.2.At)) (λ(au:Int) (af:Int×(HC)×(cN)×Int)=>match af with|(wN,bJ,c6,et)=>hU (decide (0<aJ.1)&&decide (aJ.1≤4294967296))<|hU (decide (((List.replicate aJ.1.toNat []:lq).length:Int)≤9223372036854775807))<|l5 (((List.replicate aJ.1.toNat []:lq).length:Int)-(0:Int)).toNat (0:Int) (λ(bN:Int) (gX:(lq)→Option _) (j5:(lq))=>hU (decide (0≤aJ.1)&&decide (aJ.1≤4294967296))<|aB (b2 j5 (bN:Int)) λ(cr:q3)=>gX (List.set j5 (bN:Int).toNat (List.replicate (aJ.1).toNat false))) (λ(bN:Int) (j5:(lq))=>hU (decide (aJ.1≤9223372036854775807))<|l5 (aJ.1-1).toNat (1:Int) (λ(dd:Int) (jc:((cN)×Int×(lq))→Option _) (nr,qg,jK)=>jn (λ(af:(lq)×(cN)×Int)=>match af with|(rO,qh,kA)=>jc (qh,kA,rO)) λdx=>aB (ot (eo.mk nr qg) (12:Int)) λ(cu:Int×eo)=>bif decide (cu.1<11)then aB (ot cu.2 (dd:Int)) λ(eg:Int×eo)=>aB (b2 jK eg.1) λ(e6:q3)=>aB (b2 e6 (dd:Int)) λ(ir:Bool)=>aB (oh e6 (dd:Int) true) λ(iD:q3)=>dx ((List.set jK eg.1.toNat iD),eg.2.L,eg.2.At)else dx (jK,cu.2.L,cu.2.At)) (λ(dd:Int) (af:(cN)×Int×(lq))=>match af with|(nr,qg,jK)=>aB (ot (eo.mk nr qg) (bE (aJ.1+2))) λ(dQ:Int×eo)=>jb (λ(mb:(Int×(cN)×Int×(lq))→Option _) (cI,sW,B7,iM)=>bif decide (0<cI)then jn (λ(af:(lq)×(cN)×Int)=>match af with|(B8,B9,Ca)=>mb (bE (cI-1),B9,Ca,B8)) λgv=>aB (ot (eo.mk sW B7) aJ.1) λ(dF:Int×eo)=>aB (ot dF.2 aJ.1) λ(gU:Int×eo)=>bif !decide (dF.1=gU.1)then aB (b2 iM (if gU.1<dF.1 then gU.1 else dF.1)) λ(lR:q3)=>aB (b2 lR (if gU.1>dF.1 then gU.1 else dF.1)) λ(j9:Bool)=>aB (oh lR (if gU.1>dF.1 then gU.1 else dF.1) true) λ(kL:q3)=>gv ((List.set iM (if gU.1<dF.1 then gU.1 else dF.1).toNat kL),gU.2.L,gU.2.At)else gv (iM,gU.2.L,gU.2.At)else aB (ot (eo.mk sW B7) (3:Int)) λ(mq:Int×eo)=>hU (decide ((iM.length:Int)≤9223372036854775807))<|l5 ((iM.length:Int)-(0:Int)).toNat (0:Int) (λ(jJ:Int) (pq:((G5)×(cN)×Int)→Option _) (xS,xT,xU)=>hU (decide ((iM.length:Int)≤9223372036854775807))<|l5 ((iM.length:Int)-(0:Int)).toNat (0:Int) (λ(hO:Int) (p2:((G5)×(cN)×Int)→Option _) (sX,vk,vl)=>jn (λ(af:(cN)×Int×(G5))=>match af with|(Cb,Cc,BW)=>p2 (BW,Cb,Cc)) λkP=>aB (b2 iM (jJ:Int)) λ(p4:q3)=>aB (b2 p4 (hO:Int)) λ(mj:Bool)=>bif !mj then kP (vk,vl,sX)else aB (b2 bJ (jJ:Int)) λ(py:fe)=>aB (b2 bJ (hO:Int)) λ(pz:fe)=>aB (s9 (eo.mk vk vl) ([(0:Int),(1:Int),(2:Int),(3:Int),(5:Int),(10:Int),(1000:Int)]:cN)) λ(ho:Int×eo)=>jn (λ(af:(cN)×Int×Int×Int)=>match af with|(BX,BY,EW,EX)=>aB (jf sX ([(dJ.mk py.eR pz.eR EW EX ho.1)]:G5)) λ(pW:G5)=>kP (BX,BY,pW)) λk0=>bif !(decide (mq.1=0))then aB (Ad ho.2 (1:Int) (20:Int)) λ(BL:Int×eo)=>aB (s9 BL.2 ([(1:Int),(2:Int),(3:Int),BL.1,(1000:Int)]:cN)) λ(jV:Int×eo)=>aB (Ad jV.2 (1:Int) (20:Int)) λ(xR:Int×eo)=>aB (s9 xR.2 ([jV.1,jV.1,xR.1]:cN)) λ(tW:Int×eo)=>k0 (tW.2.L,tW.2.At,jV.1,tW.1)else k0 (ho.2.L,ho.2.At,(1:Int),(1:Int))) (λ(hO:Int) (af:(G5)×(cN)×Int)=>match af with|(sX,vk,vl)=>pq (sX,vk,vl)) (xS,xT,xU)) (λ(jJ:Int) (af:(G5)×(cN)×Int)=>match af with|(xS,xT,xU)=>some ((bu.mk bJ xS),(eo.mk xT xU))) ([],mq.2.L,mq.2.At)) (dQ.1,dQ.2.L,dQ.2.At,jK)) (c6,et,j5)) (List.replicate aJ.1.toNat []:lq)) ((0:Int),[],aJ.2.L,aJ.2.At)
def GO(t:eo)(p:bu)(n:Int):Option ((cN)×eo):=
 aB (ot t (bE (n+1))) λ(aJ:Int×eo)=>jb (λ(b3:((cN)×Int×(cN)×Int)→Option _) (ee,cI,bJ,c6)=>bif ((decide (0<cI))&&(decide (0<(p.cn.length:Int))))then aB (ot (eo.mk bJ c6) (p.cn.length:Int)) λ(bq:Int×eo)=>aB (b2 p.cn bq.1) λ(cr:fe)=>aB (uy ee cr.eR) λ(cu:(cN))=>b3 (cu,bE (cI-1),bq.2.L,bq.2.At)else some (ee,(eo.mk bJ c6))) ([],aJ.1,aJ.2.L,aJ.2.At)
def JO(p:bu):ko:=
 some ((decide ((p.cn.length:Int)≤(30:Int)))&&(decide ((p.Links.length:Int)≤(70:Int))))
end
end
section
noncomputable section
def Ga(dD:Int):ko:=
 some (!decide (dD=dD))
def Gt(dD:Int)(y:Int):ko:=
 aB (wY dD) λ(aJ:Bool)=>(bif aJ then aB (wY y) λ(bq:Bool)=>(bif !bq then some true else some (decide (dD<y)))else some (decide (dD<y)))
def Fe(dD:cN)(target:Int):Option (Int×Bool):=
 jb (λ(b3:(Int×Int)→Option _) (cI,gJ)=>bif decide (cI<gJ)then aB (b2 dD (bE (Int.fdiv (IntKind.wrap .u64 (bE (cI+gJ))) (2 ^ min (1:Int).toNat 64)))) λ(cr:Int)=>aB (Gt cr target) λ(aJ:Bool)=>bif aJ then b3 (bE ((bE (Int.fdiv (IntKind.wrap .u64 (bE (cI+gJ))) (2 ^ min (1:Int).toNat 64)))+(1:Int)),gJ)else b3 (cI,bE (Int.fdiv (IntKind.wrap .u64 (bE (cI+gJ))) (2 ^ min (1:Int).toNat 64)))else(bif decide (cI<(dD.length:Int))then aB (b2 dD cI) λ(e6:Int)=>(bif decide (e6=target)then some (cI,true)else aB (Ga e6) λ(bq:Bool)=>(bif bq then aB (Ga target) λ(cu:Bool)=>some (cI,cu)else some (cI,false)))else some (cI,false))) ((0:Int),(dD.length:Int))
def CO(n:Int):ko:=
 some ((decide (1≤n))&&(decide (n≤99)))
def FZ(t:bR):Option (List (Int×Bool)):=
 jb (λ(b3:(Bool×(List (Int×Bool)))→Option _) (DB,bJ)=>bif DB then cK t.Links 0 (λ(bN:Int) (e2:aQ) (gX:(Bool×(List (Int×Bool)))→Option _) (u2,c6)=>jn (λ(af:Bool×(List (Int×Bool)))=>match af with|(DC,et)=>gX (DC,et)) λdx=>bif (((cH c6 e2.bh).getD false)&&(!((cH c6 e2.aS).getD false)))then dx (true,eG c6 e2.aS true)else dx (u2,c6)) (λ(af:Bool×(List (Int×Bool)))=>match af with|(u2,c6)=>b3 (u2,c6)) (false,bJ)else some bJ) (true,eG [] t.cc true)
def yc(t:bR):kr:=
 aB (CO t.cc) λ(aJ:Bool)=>bif !aJ then some (2:Int)else cK t.Links 0 (λ(au:Int) (e1:aQ) (b3:Unit→Option _) ()=>jn (λ(eL:Bool)=>bif eL then some (2:Int)else b3 ()) λdx=>aB (CO e1.bh) λ(bq:Bool)=>(bif !bq then dx true else aB (CO e1.aS) λ(cu:Bool)=>dx (!cu))) (λ(af:Unit)=>match af with|()=>cK (List.drop 1 t.Links) 1 (λ(bN:Int) (e2:aQ) (gX:Unit→Option _) ()=>aB (b2 t.Links (bE ((bN:Int)-(1:Int)))) λ(cr:aQ)=>aB (pt cr.bh e2.bh) λ(eg:Int)=>aB (pt cr.aS e2.aS) λ(dQ:Int)=>aB (tb ([eg,dQ]:cN)) λ(dF:Int)=>bif decide (0≤dF)then some (25:Int)else gX ()) (λ(af:Unit)=>match af with|()=>cK t.Links 0 (λ(dd:Int) (bT:aQ) (jc:(List (Int×Bool))→Option _) (bJ:(List (Int×Bool)))=>bif ((cH bJ bT.aS).getD false)then some (8:Int)else jc (eG bJ bT.aS true)) (λ(bJ:(List (Int×Bool)))=>aB (FZ t) λ(gU:(List (Int×Bool)))=>cK t.Links 0 (λ(hN:Int) (fG:aQ) (mb:Unit→Option _) ()=>bif !((cH gU fG.bh).getD false)then some (10:Int)else mb ()) (λ(af:Unit)=>match af with|()=>some (0:Int)) ()) (eG [] t.cc true)) ()) ()
def F0(t:bR):tc:=
 aB (yc t) λ(aJ:Int)=>bif !decide (aJ=0)then some []else cK t.Links 0 (λ(au:Int) (e1:aQ) (b3:(cN)→Option _) (ee:(cN))=>aB (jf ee ([e1.aS]:cN)) λ(dk:cN)=>b3 dk) (λ(ee:(cN))=>hU (decide (ee.length<4611686018427387904))<|some (mL ee)) ([t.cc]:cN)
end
end
section
noncomputable section
def JP(a:aQ)(b:aQ):kr:=
 aB (pt a.bh b.bh) λ(aJ:Int)=>aB (pt a.aS b.aS) λ(bq:Int)=>aB (tb ([aJ,bq]:cN)) λ(cu:Int)=>some cu
def Kn(a:bW)(b:bW):kr:=
 aB (pt a.Hop.bh b.Hop.bh) λ(aJ:Int)=>aB (pt a.Hop.aS b.Hop.aS) λ(bq:Int)=>aB (tb ([aJ,bq]:cN)) λ(cu:Int)=>some cu
def JQ(a:bB)(b:bB):kr:=
 aB (pt a.bh b.bh) λ(aJ:Int)=>aB (pt a.aS b.aS) λ(bq:Int)=>aB (tb ([aJ,bq]:cN)) λ(cu:Int)=>some cu
end
end
section
noncomputable section
def GP(t:bu):Option (List bW):=
 cK t.Links 0 (λ(au:Int) (e1:dJ) (b3:(yO)→Option _) (ee:(yO))=>aB (jf ee ([(bW.mk (aQ.mk e1.A e1.B) e1.ki),(bW.mk (aQ.mk e1.B e1.A) e1.lJ)]:yO)) λ(dk:yO)=>b3 dk) (λ(ee:(yO))=>aB (o4 (gD [λx:bW=>x.Hop.bh,λx:bW=>x.Hop.aS]) ee) λ(iD:yO)=>some iD) []
end
end
section
noncomputable section
def F1(l:cN):ko:=
 cK (List.drop 1 l) 1 (λ(au:Int) (e1:Int) (b3:Unit→Option _) ()=>aB (b2 l (bE ((au:Int)-(1:Int)))) λ(cr:Int)=>bif decide (e1≤cr)then some false else b3 ()) (λ(af:Unit)=>match af with|()=>some true) ()
def Ao(t:bu)(en:bR)(dP:cN):kr:=
 aB (Aj t) λ(aJ:Int)=>bif !decide (aJ=0)then some (1:Int)else aB (yc en) λ(bq:Int)=>bif !decide (bq=0)then some bq else aB (jf ([en.cc]:cN) dP) λ(dk:cN)=>cK dk 0 (λ(au:Int) (e1:Int) (b3:Unit→Option _) ()=>aB (CU t e1) λ(cu:Bool)=>bif !cu then some (4:Int)else b3 ()) (λ(af:Unit)=>match af with|()=>cK en.Links 0 (λ(bN:Int) (e2:aQ) (gX:Unit→Option _) ()=>aB (CT t e2.bh e2.aS) λ(eg:Int×Bool)=>bif !eg.2 then some (4:Int)else gX ()) (λ(af:Unit)=>match af with|()=>aB (F1 dP) λ(dQ:Bool)=>bif !dQ then some (25:Int)else aB (F0 en) λ(dF:(cN))=>cK dP 0 (λ(dd:Int) (bT:Int) (jc:Unit→Option _) ()=>aB (Fc dF bT) λ(gU:Bool)=>bif !gU then some (9:Int)else jc ()) (λ(af:Unit)=>match af with|()=>some (0:Int)) ()) ()) ()
def Gu(t:bu)(en:bR):Option (Int×Int):=
 aB (Ao t en []) λ(aJ:Int)=>bif !decide (aJ=0)then some ((0:Int),aJ)else cK en.Links 0 (λ(au:Int) (e1:aQ) (b3:Int→Option _) (u7:Int)=>aB (CT t e1.bh e1.aS) λ(bq:Int×Bool)=>b3 (bE (u7+bq.1))) (λ(u7:Int)=>some (u7,(0:Int))) (0:Int)
end
end
section
noncomputable section
def Ai(t:bu)(en:bR)(dP:cN):kr:=
 aB (wX t) λ(aJ:Int)=>bif !decide (aJ=0)then some (1:Int)else aB (Ah en) λ(bq:Int)=>bif !decide (bq=0)then some bq else aB (AX t en.cc) λ(cu:Bool)=>bif !cu then some (4:Int)else cK dP 0 (λ(au:Int) (e1:Int) (b3:Unit→Option _) ()=>aB (AX t e1) λ(eg:Bool)=>bif !eg then some (4:Int)else b3 ()) (λ(af:Unit)=>match af with|()=>cK en.Links 0 (λ(bN:Int) (e2:aQ) (gX:Unit→Option _) ()=>aB (C9 t e2.bh e2.aS) λ(dQ:Int×Bool)=>bif !dQ.2 then some (4:Int)else gX ()) (λ(af:Unit)=>match af with|()=>aB (CJ dP) λ(dF:Bool)=>bif !dF then some (25:Int)else aB (Gj en) λ(gU:(cN))=>cK dP 0 (λ(dd:Int) (bT:Int) (jc:Unit→Option _) ()=>aB (q7 gU bT) λ(mq:Bool)=>bif !mq then some (9:Int)else jc ()) (λ(af:Unit)=>match af with|()=>some (0:Int)) ()) ()) ()
def GJ(t:bu)(en:bR):Option (Int×Int):=
 aB (Ai t en []) λ(aJ:Int)=>bif !decide (aJ=0)then some ((0:Int),aJ)else cK en.Links 0 (λ(au:Int) (e1:aQ) (b3:Int→Option _) (jL:Int)=>aB (C9 t e1.bh e1.aS) λ(bq:Int×Bool)=>b3 (bE (jL+bq.1))) (λ(jL:Int)=>some (jL,(0:Int))) (0:Int)
end
end
section
noncomputable section
def GG(t:bu):Option ((fI)×(jr 100)):=
 cK t.cn 0 (λ(au:Int) (e1:fe) (b3:(jr 100)→Option _) (bJ:(jr 100))=>aB (b2 bJ.l e1.eR) λ(cr:Int)=>b3 (jr.put bJ e1.eR.toNat (au:Int))) (λ(bJ:(jr 100))=>hU (decide (0<(t.cn.length:Int))&&decide ((t.cn.length:Int)≤4294967296))<|hU (decide (((List.replicate (t.cn.length:Int).toNat []:fI).length:Int)≤9223372036854775807))<|l5 (((List.replicate (t.cn.length:Int).toNat []:fI).length:Int)-(0:Int)).toNat (0:Int) (λ(bN:Int) (gX:(fI)→Option _) (c6:(fI))=>hU (decide (0≤(t.cn.length:Int))&&decide ((t.cn.length:Int)≤4294967296))<|aB (b2 c6 (bN:Int)) λ(e6:cN)=>gX (List.set c6 (bN:Int).toNat (List.replicate ((t.cn.length:Int)).toNat (0:Int)))) (λ(bN:Int) (c6:(fI))=>cK t.Links 0 (λ(dd:Int) (bT:dJ) (jc:(fI)→Option _) (et:(fI))=>aB (b2 bJ.l bT.A) λ(ir:Int)=>aB (b2 et ir) λ(lR:cN)=>aB (b2 bJ.l bT.B) λ(j9:Int)=>aB (b2 et j9) λ(p4:cN)=>aB (b2 lR j9) λ(mj:Int)=>aB (b2 (List.set et ir.toNat (List.set lR j9.toNat bT.ki)) j9) λ(py:cN)=>aB (b2 py ir) λ(pz:Int)=>jc (List.set (List.set et ir.toNat (List.set lR j9.toNat bT.ki)) j9.toNat (List.set py ir.toNat bT.lJ))) (λ(et:(fI))=>some (et,bJ)) c6) (List.replicate (t.cn.length:Int).toNat []:fI)) (jr.zero 100)
def Gw(gO:fI)(root:Int)(dP:cN):kr:=
 hU (decide (0≤IntKind.wrap .u64 (dP.length:Int)))<|hU (decide (0<IntKind.wrap .i64 ((1:Int)*2 ^ min (IntKind.wrap .u64 (dP.length:Int)).toNat 64))&&decide (IntKind.wrap .i64 ((1:Int)*2 ^ min (IntKind.wrap .u64 (dP.length:Int)).toNat 64)≤4294967296))<|hU (decide (((List.replicate (IntKind.wrap .i64 ((1:Int)*2 ^ min (IntKind.wrap .u64 (dP.length:Int)).toNat 64)).toNat []:fI).length:Int)≤9223372036854775807))<|l5 (((List.replicate (IntKind.wrap .i64 ((1:Int)*2 ^ min (IntKind.wrap .u64 (dP.length:Int)).toNat 64)).toNat []:fI).length:Int)-(0:Int)).toNat (0:Int) (λ(au:Int) (b3:(fI)→Option _) (bJ:(fI))=>hU (decide (0≤(gO.length:Int))&&decide ((gO.length:Int)≤4294967296))<|aB (b2 bJ (au:Int)) λ(cr:cN)=>aB (b2 (List.set bJ (au:Int).toNat (List.replicate ((gO.length:Int)).toNat (0:Int))) (au:Int)) λ(e6:cN)=>hU (decide ((e6.length:Int)≤9223372036854775807))<|l5 ((e6.length:Int)-(0:Int)).toNat (0:Int) (λ(bN:Int) (gX:(fI)→Option _) (c6:(fI))=>jn (λ(et:(fI))=>gX et) λdx=>aB (b2 c6 (au:Int)) λ(ir:cN)=>aB (b2 ir (bN:Int)) λ(lR:Int)=>bif decide ((au:Int)=(0:Int))then aB (b2 (List.set c6 (au:Int).toNat (List.set ir (bN:Int).toNat (1099511627776:Int))) (au:Int)) λ(j9:cN)=>aB (b2 j9 (bN:Int)) λ(p4:Int)=>dx (List.set (List.set c6 (au:Int).toNat (List.set ir (bN:Int).toNat (1099511627776:Int))) (au:Int).toNat (List.set j9 (bN:Int).toNat (0:Int)))else dx (List.set c6 (au:Int).toNat (List.set ir (bN:Int).toNat (1099511627776:Int)))) (λ(bN:Int) (c6:(fI))=>cK dP 0 (λ(dd:Int) (bT:Int) (jc:(fI)→Option _) (j5:(fI))=>jn (λ(nr:(fI))=>jc nr) λgv=>hU (decide (0≤IntKind.wrap .u64 (dd:Int)))<|bif decide ((au:Int)=IntKind.wrap .i64 ((1:Int)*2 ^ min (IntKind.wrap .u64 (dd:Int)).toNat 64))then aB (b2 j5 (au:Int)) λ(mj:cN)=>aB (b2 mj bT) λ(py:Int)=>gv (List.set j5 (au:Int).toNat (List.set mj bT.toNat (0:Int)))else gv j5) (λ(j5:(fI))=>jb (λ(mb:(Int×(fI))→Option _) (eL,qg)=>bif ((decide (eL<(gO.length:Int)))&&(decide (0<(au:Int))))then jb (λ(pq:(Int×(fI))→Option _) (u4,jK)=>bif decide (0<u4)then aB (b2 jK (au:Int)) λ(pz:cN)=>aB (b2 pz eL) λ(uh:Int)=>aB (b2 jK u4) λ(X8:cN)=>aB (b2 X8 eL) λ(x0:Int)=>aB (b2 jK (kf .xor .i64 (au:Int) u4)) λ(X9:cN)=>aB (b2 X9 eL) λ(x1:Int)=>pq (kf .and .i64 (bE (u4-1)) (au:Int),(List.set jK (au:Int).toNat (List.set pz eL.toNat (if(bE (x0+x1))<uh then bE (x0+x1)else uh))))else mb (bE (eL+1),jK)) (kf .and .i64 (bE ((au:Int)-(1:Int))) (au:Int),qg)else jb (λ(p2:(Bool×(fI))→Option _) (sH,rO)=>bif sH then cK gO 0 (λ(l0:Int) (jN:cN) (BV:(Bool×(fI))→Option _) (nC,qh)=>cK gO 0 (λ(rL:Int) (uw:cN) (L6:(Bool×(fI))→Option _) (oV,kA)=>jn (λ(af:Bool×(fI))=>match af with|(Dk,sW)=>L6 (Dk,sW)) λkP=>jn (λ(iz:Bool)=>bif iz then aB (b2 kA (au:Int)) λ(BZ:cN)=>aB (b2 jN (rL:Int)) λ(EY:Int)=>aB (b2 BZ (rL:Int)) λ(EZ:Int)=>aB (b2 BZ (l0:Int)) λ(am1:Int)=>kP (true,(List.set kA (au:Int).toNat (List.set BZ (l0:Int).toNat (bE (EY+EZ)))))else kP (oV,kA)) λk0=>aB (b2 jN (rL:Int)) λ(E0:Int)=>(bif decide (0<E0)then aB (b2 kA (au:Int)) λ(Oi:cN)=>aB (b2 Oi (rL:Int)) λ(IF:Int)=>aB (b2 Oi (l0:Int)) λ(IG:Int)=>k0 (decide (bE (E0+IF)<IG))else k0 false)) (λ(af:Bool×(fI))=>match af with|(oV,kA)=>BV (oV,kA)) (nC,qh)) (λ(af:Bool×(fI))=>match af with|(nC,qh)=>p2 (nC,qh)) (false,rO)else b3 rO) (decide (0<(au:Int)),qg)) ((0:Int),j5)) c6) (List.set bJ (au:Int).toNat (List.replicate ((gO.length:Int)).toNat (0:Int)))) (λ(au:Int) (bJ:(fI))=>aB (b2 bJ (bE ((bJ.length:Int)-(1:Int)))) λ(Ya:cN)=>aB (b2 Ya root) λ(Oj:Int)=>some Oj) (List.replicate (IntKind.wrap .i64 ((1:Int)*2 ^ min (IntKind.wrap .u64 (dP.length:Int)).toNat 64)).toNat []:fI)
end
end
section
noncomputable section
def Al(t:bu)(d:bY):kr:=
 bif decide (6<(d.dM.length:Int))then some (3:Int)else cK (List.drop 1 d.dM) 1 (λ(au:Int) (e1:Int) (b3:Unit→Option _) ()=>aB (b2 d.dM (bE ((au:Int)-(1:Int)))) λ(cr:Int)=>bif decide (e1≤cr)then some (25:Int)else b3 ()) (λ(af:Unit)=>match af with|()=>aB (jf ([d.cc]:cN) d.dM) λ(dk:cN)=>cK dk 0 (λ(bN:Int) (e2:Int) (gX:Unit→Option _) ()=>aB (CU t e2) λ(aJ:Bool)=>bif !aJ then some (4:Int)else gX ()) (λ(af:Unit)=>match af with|()=>bif ((decide (d.de<1))||(decide (1000<d.de)))then some (2:Int)else some (0:Int)) ()) ()
def ux(t:bu)(b9:Bk):kr:=
 aB (Aj t) λ(aJ:Int)=>bif !decide (aJ=0)then some (1:Int)else bif decide (12<(b9.length:Int))then some (3:Int)else cK b9 0 (λ(au:Int) (e1:bY) (b3:Unit→Option _) ()=>aB (Al t e1) λ(bq:Int)=>bif !decide (bq=0)then some bq else b3 ()) (λ(af:Unit)=>match af with|()=>some (0:Int)) ()
def Am(t:bu):Option (List (aQ×Int)):=
 cK t.Links 0 (λ(au:Int) (e1:dJ) (b3:(List (aQ×Int))→Option _) (bJ:(List (aQ×Int)))=>b3 (gq dj (gq dj bJ (aQ.mk e1.A e1.B) e1.lS) (aQ.mk e1.B e1.A) e1.lS)) (λ(bJ:(List (aQ×Int)))=>some bJ) []
def E7(fE:yO)(E8:bW→ko):Option (List bW):=
 aB (Jf fE E8) λ(aJ:Int)=>bif decide (aJ=(-1:Int))then some fE else jb (λ(b3:((yO)×Int×Int)→Option _) (oL,cI,gJ)=>bif decide (gJ<(oL.length:Int))then jn (λ(af:(yO)×Int)=>match af with|(Ce,oE)=>b3 (Ce,oE,bE (gJ+1))) λdx=>aB (b2 oL gJ) λ(cr:bW)=>aB (E8 cr) λ(bq:Bool)=>bif !bq then aB (b2 oL cI) λ(e6:bW)=>aB (oh oL cI cr) λ(dk:yO)=>dx (dk,bE (cI+1))else dx (oL,cI)else hU (decide (0≤cI∧cI<(oL.length:Int)))<|aB (nk (oL.take cI.toNat++List.replicate (oL.length-cI.toNat) (bW.mk (aQ.mk (0:Int) (0:Int)) (0:Int))) (0:Int) cI) λ(iD:yO)=>some iD) (fE,aJ,bE (aJ+1))
def JF(a:bW)(nY:List (aQ×Int))(Ci:Int):ko:=
 some (decide (((dL dj nY a.Hop).getD (0:Int))<Ci))
def Ae(lD:List (aQ×Int))(t:bu)(iN:Int):Option (List bW):=
 aB (GP t) λ(aJ:(yO))=>aB (E7 aJ (λ(j6:bW)=>JF j6 lD iN)) λ(bq:(yO))=>some bq
def p3(lD:List (aQ×Int))(en:bR)(iN:Int):Option (Bool×(List (aQ×Int))):=
 cK en.Links 0 (λ(au:Int) (e1:aQ) (b3:(Bool×(List (aQ×Int)))→Option _) (wq,bJ)=>hU (dL dj bJ e1).isSome<|(bif wq then b3 (decide (0≤((dL dj (gq dj bJ e1 (bE (((dL dj bJ e1).getD (0:Int))-iN))) e1).getD (0:Int))),gq dj bJ e1 (bE (((dL dj bJ e1).getD (0:Int))-iN)))else b3 (false,gq dj bJ e1 (bE (((dL dj bJ e1).getD (0:Int))-iN))))) (λ(af:Bool×(List (aQ×Int)))=>match af with|(wq,bJ)=>some (wq,bJ)) (true,lD)
def yj(dD:bR):ko:=
 some ((decide (dD.cc=0))&&(decide ((dD.Links.length:Int)=(0:Int))))
end
end
section
noncomputable section
def Gk(a8:yO)(root:Int):tc:=
 jb (λ(b3:((cN)×Int×(List (Int×Bool)))→Option _) (ee,cI,bJ)=>bif decide (cI<(ee.length:Int))then cK a8 0 (λ(bN:Int) (e2:bW) (gX:((cN)×(List (Int×Bool)))→Option _) (hS,c6)=>jn (λ(af:(cN)×(List (Int×Bool)))=>match af with|(sP,et)=>gX (sP,et)) λdx=>jn (λ(eL:Bool)=>bif eL then aB (jf hS ([e2.Hop.aS]:cN)) λ(dk:cN)=>dx (dk,eG c6 e2.Hop.aS true)else dx (hS,c6)) λgv=>aB (b2 hS cI) λ(cr:Int)=>(bif decide (e2.Hop.bh=cr)then gv (!((cH c6 e2.Hop.aS).getD false))else gv false)) (λ(af:(cN)×(List (Int×Bool)))=>match af with|(hS,c6)=>b3 (hS,bE (cI+1),c6)) (ee,bJ)else hU (decide (ee.length<4611686018427387904))<|some (mL ee)) (([root]:cN),(0:Int),eG [] root true)
def An(t:bu)(kk:List (aQ×Int))(d:bY):Option ((cN)×Bool):=
 aB (Ae kk t d.de) λ(aJ:(yO))=>aB (Gk aJ d.cc) λ(bq:(cN))=>cK d.dM 0 (λ(au:Int) (e1:Int) (b3:Unit→Option _) ()=>aB (Fe bq e1) λ(cu:Int×Bool)=>bif !cu.2 then some (bq,false)else b3 ()) (λ(af:Unit)=>match af with|()=>some (bq,true)) ()
def wV(t:bu)(c2:xe)(d:bY):Option ((cN)×Int):=
 aB (ux t ([d]:Bk)) λ(aJ:Int)=>bif !decide (aJ=0)then some ([],aJ)else aB (CZ c2) λ(bq:(List (aQ×Int)))=>aB (An t bq d) λ(cu:(cN)×Bool)=>bif cu.2 then some ([],(9:Int))else some (cu.1,(0:Int))
def Gl(l:Bt)(e7:cN):Option ((xe)×Int):=
 bif !decide ((l.length:Int)=(e7.length:Int))then some ([],(8:Int))else cK e7 0 (λ(au:Int) (e1:Int) (b3:Unit→Option _) ()=>bif ((decide (e1<0))||(decide (1000<e1)))then some ([],(2:Int))else b3 ()) (λ(af:Unit)=>match af with|()=>bif decide (12<(l.length:Int))then some ([],(3:Int))else cK l 0 (λ(bN:Int) (e2:bR) (gX:(List (aQ×Int))→Option _) (bJ:(List (aQ×Int)))=>jn (λ(c6:(List (aQ×Int)))=>gX c6) λdx=>aB (yj e2) λ(aJ:Bool)=>bif aJ then dx bJ else aB (yc e2) λ(bq:Int)=>bif !decide (bq=0)then some ([],bq)else cK e2.Links 0 (λ(dd:Int) (bT:aQ) (jc:(List (aQ×Int))→Option _) (et:(List (aQ×Int)))=>aB (b2 e7 (bN:Int)) λ(cr:Int)=>jc (gq dj et bT (bE (((dL dj et bT).getD (0:Int))+cr)))) (λ(et:(List (aQ×Int)))=>dx et) bJ) (λ(bJ:(List (aQ×Int)))=>aB (wU bJ) λ(cu:(xe))=>some (cu,(0:Int))) []) ()
def vz(t:bu)(b9:Bk)(l:Bt):Option ((xe)×Int):=
 aB (ux t b9) λ(aJ:Int)=>bif !decide (aJ=0)then some ([],aJ)else bif decide ((b9.length:Int)<(l.length:Int))then some ([],(8:Int))else aB (Am t) λ(bq:(List (aQ×Int)))=>cK l 0 (λ(au:Int) (e1:bR) (b3:(List (aQ×Int))→Option _) (bJ:(List (aQ×Int)))=>jn (λ(af:Bool×(List (aQ×Int)))=>match af with|(eL,c6)=>bif eL then some ([],(1:Int))else b3 c6) λdx=>aB (yj e1) λ(cu:Bool)=>(bif !cu then aB (Ao t e1 []) λ(eg:Int)=>(bif !decide (eg=0)then dx (true,bJ)else aB (b2 b9 (au:Int)) λ(cr:bY)=>aB (p3 bJ e1 cr.de) λ(dQ:Bool×(List (aQ×Int)))=>dx (!dQ.1,dQ.2))else aB (b2 b9 (au:Int)) λ(e6:bY)=>aB (p3 bJ e1 e6.de) λ(dF:Bool×(List (aQ×Int)))=>dx (!dF.1,dF.2))) (λ(bJ:(List (aQ×Int)))=>aB (wU bJ) λ(gU:(xe))=>some (gU,(0:Int))) bq
end
end
section
noncomputable section
def ym{β:Type}(t:bu)(b9:Bk)(i0:((Bt)×Int)→Option β):Option β:=
 aB (ux t b9) λ(aJ:Int)=>bif !decide (aJ=0)then i0 ([],aJ)else aB (Am t) λ(bq:(List (aQ×Int)))=>hU (decide (0≤(b9.length:Int))&&decide ((b9.length:Int)≤4294967296))<|cK b9 0 (λ(au:Int) (e1:bY) (b3:((Bt)×(List (aQ×Int)))→Option _) (ee,bJ)=>jn (λ(af:(Bt)×(List (aQ×Int)))=>match af with|(hS,c6)=>b3 (hS,c6)) λdx=>aB (Ae bJ t e1.de) λ(cu:(yO))=>CY cu e1.cc e1.dM λ(eg:(Es)×Int×Bool)=>bif eg.2.2 then aB (b2 ee (au:Int)) λ(cr:bR)=>aB (oh ee (au:Int) (bR.mk e1.cc eg.1)) λ(dk:Bt)=>aB (b2 dk (au:Int)) λ(e6:bR)=>aB (p3 bJ e6 e1.de) λ(dQ:Bool×(List (aQ×Int)))=>dx (dk,dQ.2)else dx (ee,bJ)) (λ(af:(Bt)×(List (aQ×Int)))=>match af with|(ee,bJ)=>i0 (ee,(0:Int))) ((List.replicate ((b9.length:Int)).toNat (bR.mk (0:Int) [])),bq)
end
end
section
noncomputable section
def Gx(t:eo)(p:bu)(n:Int):Option ((Bk)×eo):=
 aB (ot t (bE (n+1))) λ(aJ:Int×eo)=>jb (λ(b3:((Bk)×Int×(cN)×Int)→Option _) (ee,cI,bJ,c6)=>bif decide (0<cI)then aB (ot (eo.mk bJ c6) (p.cn.length:Int)) λ(bq:Int×eo)=>aB (b2 p.cn bq.1) λ(cr:fe)=>aB (GO bq.2 p (3:Int)) λ(cu:(cN)×eo)=>aB (s9 cu.2 ([(1:Int),(1:Int),(2:Int),(3:Int),(5:Int),(1000:Int)]:cN)) λ(eg:Int×eo)=>aB (jf ee ([(bY.mk cr.eR cu.1 eg.1)]:Bk)) λ(dk:Bk)=>b3 (dk,bE (cI-1),eg.2.L,eg.2.At)else some (ee,(eo.mk bJ c6))) ([],aJ.1,aJ.2.L,aJ.2.At)
end
end
section
noncomputable section
def Gm(t:bu)(kk:List (aQ×Int))(d:bY)(nV:bR):ko:=
 aB (Ae kk t d.de) λ(aJ:(yO))=>CY aJ d.cc d.dM λ(bq:(Es)×Int×Bool)=>bif !bq.2.2 then aB (yj nV) λ(cu:Bool)=>some cu else jn (λ(eL:Bool)=>bif eL then some false else cK nV.Links 0 (λ(au:Int) (e1:aQ) (b3:Unit→Option _) ()=>bif decide (((dL dj kk e1).getD (0:Int))<d.de)then some false else b3 ()) (λ(af:Unit)=>match af with|()=>aB (Gu t nV) λ(dQ:Int×Int)=>some ((decide (dQ.2=0))&&(decide (dQ.1=bq.2.1)))) ()) λdx=>(bif !decide (nV.cc=d.cc)then dx true else aB (Ao t nV d.dM) λ(eg:Int)=>dx (!decide (eg=0)))
def Gg(t:bu)(b9:Bk)(l:Bt):kr:=
 aB (ux t b9) λ(aJ:Int)=>bif !decide (aJ=0)then some aJ else bif !decide ((l.length:Int)=(b9.length:Int))then some (8:Int)else aB (Am t) λ(bq:(List (aQ×Int)))=>cK b9 0 (λ(au:Int) (e1:bY) (b3:(List (aQ×Int))→Option _) (bJ:(List (aQ×Int)))=>aB (b2 l (au:Int)) λ(cr:bR)=>aB (Gm t bJ e1 cr) λ(cu:Bool)=>bif !cu then some (1:Int)else aB (p3 bJ cr e1.de) λ(eg:Bool×(List (aQ×Int)))=>b3 eg.2) (λ(bJ:(List (aQ×Int)))=>some (0:Int)) bq
end
end
section
noncomputable section
def AT(t:bR):ko:=
 some ((decide (t.cc=0))&&(decide ((t.Links.length:Int)=(0:Int))))
def vT(l:xe)(ht:Int)(g5:Int)(n:Int):Option (List bB):=
 jb (λ(b3:Int→Option _) (hw:Int)=>jn (λ(eL:Bool)=>bif eL then b3 (bE (hw+1))else aB (jf ([]:xe) l) λ(dk:xe)=>jn (λ(iz:Bool)=>bif iz then aB (b2 dk hw) λ(ir:bB)=>aB (oh dk hw (bB.mk ir.bh ir.aS (bE (ir.Count+n)))) λ(iD:xe)=>some iD else aB (nk dk (0:Int) hw) λ(kL:xe)=>aB (nk l hw (l.length:Int)) λ(pW:xe)=>aB (jf kL ([(bB.mk ht g5 n)]:xe)) λ(xg:xe)=>aB (jf xg pW) λ(kM:xe)=>some kM) λgv=>(bif decide (hw<(l.length:Int))then aB (b2 l hw) λ(e6:bB)=>(bif decide (e6.bh=ht)then gv (decide (e6.aS=g5))else gv false)else gv false)) λdx=>(bif decide (hw<(l.length:Int))then aB (b2 l hw) λ(cr:bB)=>(bif decide (cr.bh<ht)then dx true else(bif decide (cr.bh=ht)then dx (decide (cr.aS<g5))else dx false))else dx false)) (0:Int)
def CR(t:bu)(d:bY):kr:=
 bif decide (6<(d.dM.length:Int))then some (3:Int)else aB (CJ d.dM) λ(aJ:Bool)=>bif !aJ then some (25:Int)else aB (jf ([d.cc]:cN) d.dM) λ(dk:cN)=>cK dk 0 (λ(au:Int) (e1:Int) (b3:Unit→Option _) ()=>aB (AX t e1) λ(bq:Bool)=>bif !bq then some (4:Int)else b3 ()) (λ(af:Unit)=>match af with|()=>bif ((decide (d.de<1))||(decide (1000<d.de)))then some (2:Int)else some (0:Int)) ()
def AS(t:bu)(b9:Bk):kr:=
 aB (wX t) λ(aJ:Int)=>bif !decide (aJ=0)then some (1:Int)else bif decide (12<(b9.length:Int))then some (3:Int)else cK b9 0 (λ(au:Int) (e1:bY) (b3:Unit→Option _) ()=>aB (CR t e1) λ(bq:Int)=>bif !decide (bq=0)then some bq else b3 ()) (λ(af:Unit)=>match af with|()=>some (0:Int)) ()
def C5(t:bu):Option (List bB):=
 cK t.Links 0 (λ(au:Int) (e1:dJ) (b3:(xe)→Option _) (ee:(xe))=>aB (vT ee e1.A e1.B e1.lS) λ(aJ:(xe))=>aB (vT aJ e1.B e1.A e1.lS) λ(bq:(xe))=>b3 bq) (λ(ee:(xe))=>some ee) []
def td(l:xe)(ht:Int)(g5:Int):kr:=
 cK l 0 (λ(au:Int) (e1:bB) (b3:Unit→Option _) ()=>bif ((decide (e1.bh=ht))&&(decide (e1.aS=g5)))then some e1.Count else b3 ()) (λ(af:Unit)=>match af with|()=>some (0:Int)) ()
def yJ(t:bu)(c2:xe)(qZ:bR)(iN:Int):Option ((xe)×Bool):=
 aB (AT qZ) λ(aJ:Bool)=>bif aJ then some (c2,true)else aB (Ai t qZ []) λ(bq:Int)=>bif !decide (bq=0)then some ([],false)else cK qZ.Links 0 (λ(au:Int) (e1:aQ) (b3:(xe)→Option _) (jU:(xe))=>aB (td jU e1.bh e1.aS) λ(cu:Int)=>bif decide (cu<iN)then some ([],false)else aB (vT jU e1.bh e1.aS (bE (0-iN))) λ(eg:(xe))=>b3 eg) (λ(jU:(xe))=>some (jU,true)) c2
def AQ(t:bu)(c2:xe)(d:bY):tc:=
 cK t.cn 0 (λ(au:Int) (e1:fe) (b3:(cN)→Option _) (ee:(cN))=>cK t.Links 0 (λ(bN:Int) (e2:dJ) (gX:(cN)→Option _) (hS:(cN))=>jn (λ(sP:(cN))=>gX sP) λdx=>jn (λ(wE:(cN))=>jn (λ(iz:Bool)=>bif iz then aB (uy wE e2.A) λ(dF:(cN))=>dx dF else dx wE) λk0=>aB (q7 wE e2.B) λ(eg:Bool)=>(bif eg then aB (td c2 e2.B e2.A) λ(dQ:Int)=>k0 (decide (d.de≤dQ))else k0 false)) λgv=>jn (λ(eL:Bool)=>bif eL then aB (uy hS e2.B) λ(cu:(cN))=>gv cu else gv hS) λkP=>aB (q7 hS e2.A) λ(aJ:Bool)=>(bif aJ then aB (td c2 e2.A e2.B) λ(bq:Int)=>kP (decide (d.de≤bq))else kP false)) (λ(hS:(cN))=>b3 hS) ee) (λ(ee:(cN))=>some ee) ([d.cc]:cN)
def yo(t:bu)(c2:xe)(d:bY):ko:=
 aB (AQ t c2 d) λ(aJ:(cN))=>cK d.dM 0 (λ(au:Int) (e1:Int) (b3:Unit→Option _) ()=>aB (q7 aJ e1) λ(bq:Bool)=>bif !bq then some false else b3 ()) (λ(af:Unit)=>match af with|()=>some true) ()
def C2(t:bu)(c2:xe)(d:bY):kr:=
 aB (GG t) λ(aJ:(fI)×(jr 100))=>cK t.Links 0 (λ(au:Int) (e1:dJ) (b3:(fI)→Option _) (bJ:(fI))=>jn (λ(c6:(fI))=>b3 c6) λdx=>jn (λ(et:(fI))=>aB (td c2 e1.B e1.A) λ(cu:Int)=>bif decide (cu<d.de)then aB (b2 aJ.2.l e1.B) λ(j9:Int)=>aB (b2 et j9) λ(p4:cN)=>aB (b2 aJ.2.l e1.A) λ(mj:Int)=>aB (b2 p4 mj) λ(py:Int)=>aB (oh p4 mj (0:Int)) λ(iD:cN)=>dx (List.set et j9.toNat iD)else dx et) λgv=>aB (td c2 e1.A e1.B) λ(bq:Int)=>bif decide (bq<d.de)then aB (b2 aJ.2.l e1.A) λ(cr:Int)=>aB (b2 bJ cr) λ(e6:cN)=>aB (b2 aJ.2.l e1.B) λ(ir:Int)=>aB (b2 e6 ir) λ(lR:Int)=>aB (oh e6 ir (0:Int)) λ(dk:cN)=>gv (List.set bJ cr.toNat dk)else gv bJ) (λ(bJ:(fI))=>cK d.dM 0 (λ(bN:Int) (e2:Int) (gX:(cN)→Option _) (zq:(cN))=>aB (b2 aJ.2.l e2) λ(pz:Int)=>aB (jf zq ([pz]:cN)) λ(kL:cN)=>gX kL) (λ(zq:(cN))=>aB (b2 aJ.2.l d.cc) λ(uh:Int)=>aB (Gw bJ uh zq) λ(eg:Int)=>some eg) []) aJ.1
def Gy(t:bu)(b9:Bk)(l:Bt):kr:=
 aB (AS t b9) λ(aJ:Int)=>bif !decide (aJ=0)then some aJ else bif !decide ((l.length:Int)=(b9.length:Int))then some (8:Int)else aB (C5 t) λ(bq:(xe))=>cK b9 0 (λ(au:Int) (e1:bY) (b3:(xe)→Option _) (jU:(xe))=>jn (λ(DN:(xe))=>b3 DN) λdx=>aB (b2 l (au:Int)) λ(cr:bR)=>aB (yo t jU e1) λ(cu:Bool)=>aB (AT cr) λ(eg:Bool)=>bif (cu==eg)then some (1:Int)else bif !cu then dx jU else aB (yJ t jU cr e1.de) λ(dQ:(xe)×Bool)=>jn (λ(eL:Bool)=>bif eL then some (1:Int)else aB (GJ t cr) λ(gU:Int×Int)=>aB (C2 t jU e1) λ(mq:Int)=>bif !decide (gU.1=mq)then some (1:Int)else dx dQ.1) λgv=>(bif !dQ.2 then gv true else(bif !decide (cr.cc=e1.cc)then gv true else aB (Ai t cr e1.dM) λ(dF:Int)=>gv (!decide (dF=0))))) (λ(jU:(xe))=>some (0:Int)) bq
end
end
section
noncomputable section
def GK(l:Bt)(e7:cN):Option ((xe)×Int):=
 bif !decide ((l.length:Int)=(e7.length:Int))then some ([],(8:Int))else cK e7 0 (λ(au:Int) (e1:Int) (b3:Unit→Option _) ()=>bif ((decide (e1<0))||(decide (1000<e1)))then some ([],(2:Int))else b3 ()) (λ(af:Unit)=>match af with|()=>bif decide (12<(l.length:Int))then some ([],(3:Int))else cK l 0 (λ(bN:Int) (e2:bR) (gX:Unit→Option _) ()=>aB (Ah e2) λ(aJ:Int)=>jn (λ(eL:Bool)=>bif eL then some ([],aJ)else gX ()) λdx=>(bif !decide (aJ=0)then aB (AT e2) λ(bq:Bool)=>dx (!bq)else dx false)) (λ(af:Unit)=>match af with|()=>cK l 0 (λ(dd:Int) (bT:bR) (jc:(xe)→Option _) (ee:(xe))=>cK bT.Links 0 (λ(hN:Int) (fG:aQ) (mb:(xe)→Option _) (hS:(xe))=>aB (b2 e7 (dd:Int)) λ(cr:Int)=>aB (vT hS fG.bh fG.aS cr) λ(cu:(xe))=>mb cu) (λ(hS:(xe))=>jc hS) ee) (λ(ee:(xe))=>some (ee,(0:Int))) []) ()) ()
def GL(t:bu)(b9:Bk)(l:Bt):Option ((xe)×Int):=
 aB (AS t b9) λ(aJ:Int)=>bif !decide (aJ=0)then some ([],aJ)else bif decide ((b9.length:Int)<(l.length:Int))then some ([],(8:Int))else aB (C5 t) λ(bq:(xe))=>cK l 0 (λ(au:Int) (e1:bR) (b3:(xe)→Option _) (jU:(xe))=>aB (b2 b9 (au:Int)) λ(cr:bY)=>aB (yJ t jU e1 cr.de) λ(cu:(xe)×Bool)=>bif !cu.2 then some ([],(1:Int))else b3 cu.1) (λ(jU:(xe))=>some (jU,(0:Int))) bq
def C0(t:bu)(c2:xe)(d:bY):Option (Bool×Int):=
 aB (wX t) λ(aJ:Int)=>bif !decide (aJ=0)then some (false,(1:Int))else aB (CR t d) λ(bq:Int)=>bif !decide (bq=0)then some (false,bq)else aB (yo t c2 d) λ(cu:Bool)=>some (cu,(0:Int))
def Gn(t:bu)(c2:xe)(d:bY):Option ((cN)×Int):=
 aB (C0 t c2 d) λ(aJ:Bool×Int)=>bif !decide (aJ.2=0)then some ([],aJ.2)else bif aJ.1 then some ([],(9:Int))else aB (AQ t c2 d) λ(bq:(cN))=>some (bq,(0:Int))
def GA(t:bu)(b9:Bk):kr:=
 aB (AS t b9) λ(aJ:Int)=>some aJ
def CK(a:xe)(b:xe):ko:=
 bif !decide ((a.length:Int)=(b.length:Int))then some false else cK a 0 (λ(au:Int) (e1:bB) (b3:Unit→Option _) ()=>aB (b2 b (au:Int)) λ(cr:bB)=>bif !(Hr e1 cr)then some false else b3 ()) (λ(af:Unit)=>match af with|()=>some true) ()
end
end
section
noncomputable section
def F3(t:bu)(c2:xe)(d:bY):Option (Bool×Int):=
 aB (ux t ([d]:Bk)) λ(aJ:Int)=>bif !decide (aJ=0)then some (false,aJ)else aB (CZ c2) λ(bq:(List (aQ×Int)))=>aB (An t bq d) λ(cu:(cN)×Bool)=>some (cu.2,(0:Int))
end
end
end
section
open Go Go.Proofs.Tryz List
set_option maxRecDepth 100000
set_option linter.all false
def AP{n:Int}{r:Bool}(hm:GD n=some r):dn prog 147 [] [U n] (.bool r):=by
 refine dE func147 rfl rfl ?_;unfold GD at hm;refine aO [] [(0,U n)] []<|axy [(2,.bool ((decide (1≤n))&&(decide (n≤1000))))] [] (λhk=>?_) ?_
 ·rcases kF (decide (1≤n))with aN|aN
  ·exact aO [(2,ax (b0 aN)),(6,ax (oH (q:=decide (n≤1000)) aN))] _ _ hk
  exact aO [(2,ax (b0 aN)),(6,ax (oI (q:=decide (n≤1000)) aN))] _ _ hk
 cases hm;exact A.ret bG
def Kf{t:bu}{kk:Int}{r:Bool}(hm:AW t kk=some r):dn prog 148 [] [.agg (bV t),U kk] (.bool r):=by
 refine dE func148 rfl rfl ?_;unfold AW at hm;refine aO [(0,.al 78)] [(1,U kk),(2,.ptr 78 0)] [(78,.cells 28 (bV t))]<|A.seq<|aH [] [] [(5,U 0)]<|A.block<|axO 2 0 rfl rfl rfl λdX=>?_
 obtain⟨eT,eU,eW,eO,hm⟩:=fF hm;refine axq (l:=t.cn) (e3:=0) (B:=eT) (K:=eU) hm (λau=>λ()=>[(1,U kk),(2,.ptr 78 0),(5,U au)]) (λau=>λ()=>[(78,.cells 28 (bV t))]) ?_ ?_ ?_
 ·exact fm
 ·rintro au e1 b3 ⟨⟩ eX bF hm;rw[eW]at hm;refine A.seq<|aH [(3,ax (cb fN t.cn))] [] [(10,.d ((au:Int)<t.cn.length))] ?_
  refine bz (fC bF)<|A.skip<|A.seq<|A.block<|aH [(3,b7 (ix fN (eM bF)))] [10] [(20,.d (e1.eR=kk))] ?_
  rcases bL hm with⟨aN,hm⟩|⟨aN,hm⟩
  ·refine bz aN<|aO [] [(4,.bool true)] [] ?_
   cases hm;exact A.ret bG
  exact bx aN<|A.skip<|cB [(1,ax (fk bF dX))] [5,20] [(5,U ((au+1:Nat):Int))]<|ck () hm
 rintro au ⟨⟩ eX er hm;rw[eO]at hm;refine A.seq<|aH [(3,ax (cb fN t.cn))] [] [(10,.d ((au:Int)<t.cn.length))] ?_
 refine bx (fB er)<|A.exit<|aO [] [(4,.bool false)] [] ?_
 cases hm;exact A.ret bG
def aby{t:bu}{ht:Int}{g5:Int}{r:Int×Bool}(hm:GF t ht g5=some r):dn prog 150 [] [.agg (bV t),U ht,U g5] (.dm [U r.1,.bool r.2]):=by
 refine dE func150 rfl rfl ?_;unfold GF at hm;refine aO [(0,.al 67)] [(1,U ht),(2,U g5),(3,.ptr 67 0)] [(67,.cells 28 (bV t))]<|A.seq<|aH [] [] [(8,U 0)]<|A.block<|axO 3 1 rfl rfl rfl λdX=>?_
 obtain⟨eT,eU,eW,eO,hm⟩:=fF hm;refine axq (l:=t.Links) (e3:=0) (B:=eT) (K:=eU) hm (λau=>λ()=>[(1,U ht),(2,U g5),(3,.ptr 67 0),(8,U au)]) (λau=>λ()=>[(67,.cells 28 (bV t))]) ?_ ?_ ?_
 ·exact fm
 ·rintro au e1 b3 ⟨⟩ eX bF hm;rw[eW]at hm;refine A.seq<|aH [(3,ax (cb ff t.Links))] [] [(14,.d ((au:Int)<t.Links.length))] ?_
  refine bz (fC bF)<|A.skip<|A.seq<|A.block<|c0 [(3,b7 (ix ff (eM bF))),(5,.al 109)] [14] [(9,.ptr 109 0)] [] [(109,.cells 62 (ga e1))]<|A.seq<|axy [(1,U ht),(2,U g5),(3,.ptr 67 0),(8,U au),(9,.ptr 109 0),(31,.bool ((decide (e1.A=ht))&&(decide (e1.B=g5))))] [(67,.cells 28 (bV t)),(109,.cells 62 (ga e1))] (λhk=>?_) ?_
  ·rcases kF (decide (e1.A=ht))with aN|aN
   ·exact aO [(4,ax (b0 aN)),(9,ax (oH (q:=decide (e1.B=g5)) aN))] _ _ hk
   exact aO [(4,ax (b0 aN)),(9,ax (oI (q:=decide (e1.B=g5)) aN))] _ _ hk
  rcases bL hm with⟨bw,hm⟩|⟨bw,hm⟩
  ·refine bz bw<|aO [] [(6,U e1.ki),(7,.bool true)] [] ?_
   cases hm;exact A.ret bG
  refine bx bw<|A.skip<|axy [(1,U ht),(2,U g5),(3,.ptr 67 0),(8,U au),(9,.ptr 109 0),(43,.bool ((decide (e1.B=ht))&&(decide (e1.A=g5))))] [(67,.cells 28 (bV t)),(109,.cells 62 (ga e1))] (λhk=>?_) ?_
  ·rcases kF (decide (e1.B=ht))with cg|cg
   ·exact aO [(4,ax (b0 cg)),(9,ax (oH (q:=decide (e1.A=g5)) cg))] _ _ hk
   exact aO [(4,ax (b0 cg)),(9,ax (oI (q:=decide (e1.A=g5)) cg))] _ _ hk
  rcases bL hm with⟨dR,hm⟩|⟨dR,hm⟩
  ·refine bz dR<|aO [] [(6,U e1.lJ),(7,.bool true)] [] ?_
   cases hm;exact A.ret bG
  exact bx dR<|A.skip<|hr [(1,ax (fk bF dX))] [8,9,43] [(8,U ((au+1:Nat):Int))] [109] []<|ck () hm
 rintro au ⟨⟩ eX er hm;rw[eO]at hm;refine A.seq<|aH [(3,ax (cb ff t.Links))] [] [(14,.d ((au:Int)<t.Links.length))] ?_
 refine bx (fB er)<|A.exit<|aO [] [(6,U 0),(7,.bool false)] [] ?_
 cases hm;exact A.ret bG
def CW{t:bu}{r:Int}(hm:wX t=some r):dn prog 77 [] [.agg (bV t)] (U r):=by
 refine dE func77 rfl rfl ?_;unfold wX at hm;refine aO [(0,.al 19)] [(1,.ptr 19 0)] [(19,.cells 28 (bV t))]<|A.seq<|axy [(1,.ptr 19 0),(21,.bool ((decide (24<(t.cn.length:Int)))||(decide (60<(t.Links.length:Int)))))] [(19,.cells 28 (bV t))] (λhk=>?_) ?_
 ·rcases kF (decide (24<(t.cn.length:Int)))with aN|aN
  ·exact aO [(2,ax (cb fN t.cn)),(4,ax (b0 aN)),(9,ax (wA (q:=decide (60<(t.Links.length:Int))) aN))] _ _ hk
  exact aO [(2,ax (cb fN t.cn)),(4,ax (b0 aN)),(7,ax (cb ff t.Links)),(9,ax (tV (q:=decide (60<(t.Links.length:Int))) aN))] _ _ hk
 rcases bL hm with⟨bw,hm⟩|⟨bw,hm⟩
 ·refine bz bw<|aO [] [(2,U 3)] [] ?_
  cases hm;exact A.ret bG
 refine bx bw<|A.skip<|A.seq<|aH [] [21] [(3,U 0)]<|A.block<|axO 1 0 rfl rfl rfl λdX=>?_
 obtain⟨eT,eU,eW,eO,hm⟩:=fF hm;refine axq (l:=t.cn) (e3:=0) (B:=eT) (K:=eU) hm (λau=>λ()=>[(1,.ptr 19 0),(3,U au)]) (λau=>λ()=>[(19,.cells 28 (bV t))]) ?_ ?_ ?_
 ·exact fm
 ·rintro au e1 b3 ⟨⟩ eX bF hm;rw[eW]at hm;refine A.seq<|aH [(3,ax (cb fN t.cn))] [] [(26,.d ((au:Int)<t.cn.length))] ?_
  refine bz (fC bF)<|A.skip<|A.seq<|A.block<|axy [(1,.ptr 19 0),(3,U au),(44,.bool ((decide (e1.eR<1))||(decide (99<e1.eR))))] [(19,.cells 28 (bV t))] (λhk=>?_) ?_
  ·rcases kF (decide (e1.eR<1))with cg|cg
   ·exact aO [(3,b7 (ix fN (eM bF))),(7,ax (b0 cg)),(15,ax (wA (q:=decide (99<e1.eR)) cg))] _ _ hk
   exact aO [(3,b7 (ix fN (eM bF))),(7,ax (b0 cg)),(11,b7 (ix fN (eM bF))),(15,ax (tV (q:=decide (99<e1.eR)) cg))] _ _ hk
  rcases bL hm with⟨dR,hm⟩|⟨dR,hm⟩
  ·refine bz dR<|aO [] [(2,U 2)] [] ?_
   cases hm;exact A.ret bG
  exact bx dR<|A.skip<|cB [(1,ax (fk bF dX))] [3,44] [(3,U ((au+1:Nat):Int))]<|ck () hm
 rintro au ⟨⟩ eX er hm;rw[eO]at hm;refine A.seq<|aH [(3,ax (cb fN t.cn))] [] [(26,.d ((au:Int)<t.cn.length))] ?_
 refine bx (fB er)<|A.exit<|A.seq<|aH [] [3,26] [(4,U 1)]<|A.block<|axO 1 0 rfl rfl rfl λgr=>?_
 obtain⟨jQ,iH,jZ,j0,hm⟩:=fF hm;refine axq (l:=t.cn) (e3:=1) (B:=jQ) (K:=iH) hm (λbN=>λ()=>[(1,.ptr 19 0),(4,U bN)]) (λbN=>λ()=>[(19,.cells 28 (bV t))]) ?_ ?_ ?_
 ·exact fm
 ·rintro bN e2 gX ⟨⟩ h6 eu hm;rw[jZ]at hm;refine A.seq<|aH [(3,ax (cb fN t.cn))] [] [(49,.d ((bN:Int)<t.cn.length))] ?_
  refine bz (fC eu)<|A.skip<|A.seq<|A.block ?_
  obtain⟨cr,h1,hm⟩:=aU hm;refine aH [(4,b7 (ix fN h1)),(10,b7 (ix fN (eM eu)))] [49] [(65,.d (e2.eR≤cr.eR))] ?_;rcases bL hm with⟨eV,hm⟩|⟨eV,hm⟩
  ·refine bz eV<|aO [] [(2,U 25)] [] ?_
   cases hm;exact A.ret bG
  exact bx eV<|A.skip<|cB [(1,ax (fk eu gr))] [4,65] [(4,U ((bN+1:Nat):Int))]<|ck () hm
 rintro bN ⟨⟩ h6 iR hm;rw[j0]at hm;refine A.seq<|aH [(3,ax (cb fN t.cn))] [] [(49,.d ((bN:Int)<t.cn.length))] ?_
 refine bx (fB iR)<|A.exit<|A.seq<|aH [] [4,49] [(5,U 0)]<|A.block<|axO 1 1 rfl rfl rfl λnJ=>?_
 obtain⟨nv,nw,nH,nI,hm⟩:=fF hm;refine axq (l:=t.Links) (e3:=0) (B:=nv) (K:=nw) hm (λdd=>λ()=>[(1,.ptr 19 0),(5,U dd)]) (λdd=>λ()=>[(19,.cells 28 (bV t))]) ?_ ?_ ?_
 ·exact fm
 ·rintro dd bT jc ⟨⟩ ml h7 hm;rw[nH]at hm;refine A.seq<|aH [(3,ax (cb ff t.Links))] [] [(70,.d ((dd:Int)<t.Links.length))] ?_
  refine bz (fC h7)<|A.skip<|A.seq<|A.block<|c0 [(3,b7 (ix ff (eM h7))),(5,.al 203)] [70] [(6,.ptr 203 0)] [] [(203,.cells 62 (ga bT))] ?_
  obtain⟨dx,iu,hm⟩:=h2 hm;refine A.J (J:=dx) (r:=r) (λeL=>[(1,.ptr 19 0),(5,U dd),(97,.bool eL)]) (λeL=>[(19,.cells 28 (bV t))]) ?_ ?_
  ·obtain⟨aJ,D,hm⟩:=aU hm;rcases bL hm with⟨gY,hm⟩|⟨gY,hm⟩
   ·exact hr [(2,bI (AP D) BE),(4,ax (b0 gY))] [6] [(97,.bool true)] [203] []<|ck true hm
   obtain⟨bq,aj,hm⟩:=aU hm;rcases bL hm with⟨i1,hm⟩|⟨i1,hm⟩
   ·exact hr [(2,bI (AP D) BE),(4,ax (b0 gY)),(7,bI (AP aj) BE),(10,ax (b0 i1))] [6] [(97,.bool true)] [203] []<|ck true hm
   rcases bL hm with⟨me,hm⟩|⟨me,hm⟩
   ·exact hr [(2,bI (AP D) BE),(4,ax (b0 gY)),(7,bI (AP aj) BE),(10,ax (b0 i1)),(15,ax (b0 me))] [6] [(97,.bool true)] [203] []<|ck true hm
   exact hr [(2,bI (AP D) BE),(4,ax (b0 gY)),(7,bI (AP aj) BE),(10,ax (b0 i1)),(15,ax (b0 me))] [6] [(97,.d (1000<bT.lS))] [203] []<|ck (decide (1000<bT.lS)) hm
  rintro eL hm;rw[iu]at hm;rcases bL hm with⟨qt,hm⟩|⟨qt,hm⟩
  ·refine bz qt<|aO [] [(2,U 2)] [] ?_
   cases hm;exact A.ret bG
  exact bx qt<|A.skip<|cB [(1,ax (fk h7 nJ))] [5,97] [(5,U ((dd+1:Nat):Int))]<|ck () hm
 rintro dd ⟨⟩ ml jO hm;rw[nI]at hm;refine A.seq<|aH [(3,ax (cb ff t.Links))] [] [(70,.d ((dd:Int)<t.Links.length))] ?_
 refine bx (fB jO)<|A.exit<|A.seq<|aH [] [5,70] [(7,U 0)]<|A.block<|axO 1 1 rfl rfl rfl λw5=>?_
 obtain⟨wO,wP,w3,w4,hm⟩:=fF hm;refine axq (l:=t.Links) (e3:=0) (B:=wO) (K:=wP) hm (λhN=>λ()=>[(1,.ptr 19 0),(7,U hN)]) (λhN=>λ()=>[(19,.cells 28 (bV t))]) ?_ ?_ ?_
 ·exact fm
 ·rintro hN fG mb ⟨⟩ w8 lC hm;rw[w3]at hm;refine A.seq<|aH [(3,ax (cb ff t.Links))] [] [(102,.d ((hN:Int)<t.Links.length))] ?_
  refine bz (fC lC)<|A.skip<|A.seq<|A.block ?_
  obtain⟨gv,k4,hm⟩:=h2 hm;refine A.J (J:=gv) (r:=r) (λiz=>[(1,.ptr 19 0),(7,U hN),(124,.bool iz)]) (λiz=>[(19,.cells 28 (bV t))]) ?_ ?_
  ·obtain⟨cu,aV,hm⟩:=aU hm;rcases bL hm with⟨qs,hm⟩|⟨qs,hm⟩
   ·exact cB [(4,b7 (ix ff (eM lC))),(7,bI (Kf aV) Ib),(9,ax (b0 qs))] [102] [(124,.bool true)]<|ck true hm
   obtain⟨eg,b4,hm⟩:=aU hm;exact cB [(4,b7 (ix ff (eM lC))),(7,bI (Kf aV) Ib),(9,ax (b0 qs)),(14,b7 (ix ff (eM lC))),(17,bI (Kf b4) Ib)] [102] [(124,.bool (!eg))]<|ck (!eg) hm
  rintro iz hm;rw[k4]at hm;rcases bL hm with⟨uq,hm⟩|⟨uq,hm⟩
  ·refine bz uq<|aO [] [(2,U 4)] [] ?_
   cases hm;exact A.ret bG
  exact bx uq<|A.skip<|cB [(1,ax (fk lC w5))] [7,124] [(7,U ((hN+1:Nat):Int))]<|ck () hm
 rintro hN ⟨⟩ w8 qz hm;rw[w4]at hm;refine A.seq<|aH [(3,ax (cb ff t.Links))] [] [(102,.d ((hN:Int)<t.Links.length))] ?_
 refine bx (fB qz)<|A.exit<|A.seq<|aH [] [7,102] [(8,U 0)]<|A.block<|axO 1 1 rfl rfl rfl λan0=>?_
 obtain⟨q0,L0,O2,O9,hm⟩:=fF hm;refine axq (l:=t.Links) (e3:=0) (B:=q0) (K:=L0) hm (λjJ=>λ()=>[(1,.ptr 19 0),(8,U jJ)]) (λjJ=>λ()=>[(19,.cells 28 (bV t))]) ?_ ?_ ?_
 ·exact fm
 ·rintro jJ gy pq ⟨⟩ Pz AL hm;rw[O2]at hm;refine A.seq<|aH [(3,ax (cb ff t.Links))] [] [(129,.d ((jJ:Int)<t.Links.length))] ?_
  refine bz (fC AL)<|A.skip<|A.seq<|A.block<|aH [(3,b7 (ix ff (eM AL))),(9,b7 (ix ff (eM AL)))] [129] [(144,.d (gy.B≤gy.A))] ?_
  rcases bL hm with⟨ur,hm⟩|⟨ur,hm⟩
  ·refine bz ur<|aO [] [(2,U 8)] [] ?_
   cases hm;exact A.ret bG
  exact bx ur<|A.skip<|cB [(1,ax (fk AL an0))] [8,144] [(8,U ((jJ+1:Nat):Int))]<|ck () hm
 rintro jJ ⟨⟩ Pz PE hm;rw[O9]at hm;refine A.seq<|aH [(3,ax (cb ff t.Links))] [] [(129,.d ((jJ:Int)<t.Links.length))] ?_
 refine bx (fB PE)<|A.exit<|A.seq<|aH [] [8,129] [(9,U 1)]<|A.block<|axO 1 1 rfl rfl rfl λFu=>?_
 obtain⟨zO,zR,Ar,As,hm⟩:=fF hm;refine axq (l:=t.Links) (e3:=1) (B:=zO) (K:=zR) hm (λhO=>λ()=>[(1,.ptr 19 0),(9,U hO)]) (λhO=>λ()=>[(19,.cells 28 (bV t))]) ?_ ?_ ?_
 ·exact fm
 ·rintro hO g1 p2 ⟨⟩ AD rJ hm;rw[Ar]at hm;refine A.seq<|aH [(3,ax (cb ff t.Links))] [] [(149,.d ((hO:Int)<t.Links.length))] ?_
  refine bz (fC rJ)<|A.skip<|A.seq<|A.block ?_
  obtain⟨e6,dz,hm⟩:=aU hm;refine c0 [(4,b7 (ix ff dz)),(9,b7 (ix ff (eM rJ))),(11,.al 204),(12,.al 205)] [149] [(10,.ptr 204 0),(11,.ptr 205 0)] [] [(204,.cells 62 (ga e6)),(205,.cells 62 (ga g1))]<|axy [(1,.ptr 19 0),(9,U hO),(181,.bool ((decide (g1.A<e6.A))||((decide (e6.A=g1.A))&&(decide (g1.B≤e6.B)))))] [(19,.cells 28 (bV t))] (λhk=>?_) ?_
  ·rcases kF (decide (g1.A<e6.A))with sn|sn
   ·exact aO [(5,ax (b0 sn)),(18,ax (wA (q:=((decide (e6.A=g1.A))&&(decide (g1.B≤e6.B)))) sn))] _ _ hk
   rcases kF (decide (e6.A=g1.A))with wS|wS
   ·exact aO [(5,ax (b0 sn)),(11,ax (b0 wS)),(18,ax ((oH (q:=decide (g1.B≤e6.B)) wS).trans (tV (q:=((decide (e6.A=g1.A))&&(decide (g1.B≤e6.B)))) sn)))] _ _ hk
   exact aO [(5,ax (b0 sn)),(11,ax (b0 wS)),(18,ax ((oI (q:=decide (g1.B≤e6.B)) wS).trans (tV (q:=((decide (e6.A=g1.A))&&(decide (g1.B≤e6.B)))) sn)))] _ _ hk
  rcases bL hm with⟨wT,hm⟩|⟨wT,hm⟩
  ·refine bz wT<|aO [] [(2,U 25)] [] ?_
   cases hm;exact A.ret bG
  exact bx wT<|A.skip<|cB [(1,ax (fk rJ Fu))] [9,181] [(9,U ((hO+1:Nat):Int))]<|ck () hm
 rintro hO ⟨⟩ AD vK hm;rw[As]at hm;refine A.seq<|aH [(3,ax (cb ff t.Links))] [] [(149,.d ((hO:Int)<t.Links.length))] ?_
 refine bx (fB vK)<|A.exit<|aO [] [(2,U 0)] [] ?_
 cases hm;exact A.ret bG
end
section
open Go Go.Proofs.Tryz List
set_option maxRecDepth 100000
set_option linter.all false
def Q1{t:bu}{kk:Int}{r:Bool}(hm:AX t kk=some r):dn prog 79 [] [.agg (bV t),U kk] (.bool r):=by
 refine dE func79 rfl rfl ?_;unfold AX at hm;refine aO [(0,.al 211)] [(1,U kk),(2,.ptr 211 0)] [(211,.cells 28 (bV t))] ?_;obtain⟨aJ,h1,hm⟩:=aU hm;rcases bL hm with⟨aN,hm⟩|⟨aN,hm⟩
 ·obtain⟨bq,D,hm⟩:=aU hm;refine aO [(1,bI (CW h1) B6),(3,ax (b0 aN)),(6,bI (Kf D) Ib)] [(4,.bool bq)] [] ?_;cases hm;exact A.ret bG
 refine aO [(1,bI (CW h1) B6),(3,ax (b0 aN))] [(4,.bool false)] [] ?_;cases hm;exact A.ret bG
def aan{t:bu}{ht:Int}{g5:Int}{r:Int×Bool}(hm:C9 t ht g5=some r):dn prog 80 [] [.agg (bV t),U ht,U g5] (.dm [U r.1,.bool r.2]):=by
 refine dE func80 rfl rfl ?_;unfold C9 at hm;refine aO [(0,.al 146)] [(1,U ht),(2,U g5),(3,.ptr 146 0)] [(146,.cells 28 (bV t))]<|A.seq ?_
 obtain⟨aJ,h1,hm⟩:=aU hm;refine aH [(1,bI (CW h1) B6)] [] [(10,.bool (!decide (aJ=0)))] ?_;rcases bL hm with⟨aN,hm⟩|⟨aN,hm⟩
 ·refine bz aN<|aO [] [(6,U 0),(7,.bool false)] [] ?_
  cases hm;exact A.ret bG
 refine bx aN<|A.skip ?_
 obtain⟨bq,D,hm⟩:=aU hm;refine aO [(3,bI (aby D) ale)] [(6,U bq.1),(7,.bool bq.2)] [] ?_;cases hm;exact A.ret bG
end
section
open Go Go.Proofs.Tryz List
set_option maxRecDepth 100000
set_option linter.all false
variable {dD:Int}{r:Bool}
def Ap(hm:wY dD=some r):dn prog 164 [] [U dD] (.bool r):=by
 refine dE func164 rfl rfl ?_;unfold wY at hm;refine aO [] [(0,U dD)] []<|aO [] [(2,.bool (!decide (dD=dD)))] [] ?_
 cases hm;exact A.ret bG
def uv{y:Int}{r:Int}(hm:pt dD y=some r):dn prog 106 [] [U dD,U y] (U r):=by
 refine dE func106 rfl rfl ?_;unfold pt at hm;refine aO [] [(0,U dD),(1,U y)] [] ?_;obtain⟨aJ,h1,hm⟩:=aU hm;refine aH [(1,bI (Ap h1) BF)] [] [(5,.bool aJ)] ?_;obtain⟨bq,D,hm⟩:=aU hm;refine aH [(1,bI (Ap D) BF)] [] [(6,.bool bq)]<|A.seq<|aH [] [5] [(11,.bool aJ)] ?_
 rcases bL hm with⟨aN,hm⟩|⟨aN,hm⟩
 ·refine bz aN<|A.seq<|aO [] [(12,.bool bq)] [] ?_
  rcases bL hm with⟨bw,hm⟩|⟨bw,hm⟩
  ·refine bz bw<|aO [] [(4,U 0)] [] ?_
   cases hm;exact A.ret bG
  refine bx bw<|A.skip<|aO [] [(4,U (-1))] [] ?_
  cases hm;exact A.ret bG
 refine bx aN<|A.skip<|A.seq<|aH [] [6,11] [(13,.bool bq)] ?_
 rcases bL hm with⟨cg,hm⟩|⟨cg,hm⟩
 ·refine bz cg<|aO [] [(4,U 1)] [] ?_
  cases hm;exact A.ret bG
 refine bx cg<|A.skip<|A.seq<|aH [] [13] [(16,.d (dD<y))] ?_
 rcases bL hm with⟨dR,hm⟩|⟨dR,hm⟩
 ·refine bz dR<|aO [] [(4,U (-1))] [] ?_
  cases hm;exact A.ret bG
 refine bx dR<|A.skip<|A.seq<|aO [] [(19,.d (y<dD))] [] ?_
 rcases bL hm with⟨eV,hm⟩|⟨eV,hm⟩
 ·refine bz eV<|aO [] [(4,U 1)] [] ?_
  cases hm;exact A.ret bG
 refine bx eV<|A.skip<|aO [] [(4,U 0)] [] ?_
 cases hm;exact A.ret bG
def Gi{gR:cN}{r:Int}(hm:tb gR=some r):dn prog 126 [] [av az gR] (U r):=by
 refine dE func126 rfl rfl ?_;unfold tb at hm;refine aO [] [(0,av az gR)] []<|aH [] [] [(3,U 0)]<|A.seq<|aH [(1,ax (cb az gR))] [0] [(6,av az gR),(7,U gR.length),(8,U 0)]<|A.block<|axt 6 rfl λdX=>?_
 obtain⟨eT,eU,eW,eO,hm⟩:=fF hm;refine axq (l:=gR) (e3:=0) (B:=eT) (K:=eU) hm (λau=>λ()=>[(3,U 0),(6,av az gR),(7,U gR.length),(8,U au)]) (λau=>λ()=>[]) ?_ ?_ ?_
 ·exact fm
 ·rintro au e1 b3 ⟨⟩ eX bF hm;rw[eW]at hm;refine aH [] [] [(9,.d ((au:Int)<gR.length))]<|A.seq<|bz (fC bF)<|A.skip<|A.seq<|A.block<|aH [(0,b7 (ix az (eM bF)))] [9] [(5,U e1)]<|aH [] [] [(14,.bool (!decide (e1=0)))] ?_
  rcases bL hm with⟨aN,hm⟩|⟨aN,hm⟩
  ·refine bz aN<|aO [] [(2,U e1)] [] ?_
   cases hm;exact A.ret bG
  exact bx aN<|A.skip<|cB [(0,ax (fk bF dX))] [8,5,14] [(8,U ((au+1:Nat):Int))]<|ck () hm
 rintro au ⟨⟩ eX er hm;rw[eO]at hm;refine aH [] [] [(9,.d ((au:Int)<gR.length))]<|A.seq<|bx (fB er)<|A.exit<|aO [] [(2,U 0)] [] ?_
 cases hm;exact A.ret bG
variable {rR:Nat}{tU:List W}
def apL{dD:G5}{target:dJ}{us:dJ→dJ→kr}(zl:cS prog rR)(zm:∀(j6:dJ) (HE:dJ) (q:Int),us j6 HE=some q→dn prog rR [] ([.agg (ga j6),.agg (ga HE)]++tU) (U q)){r:Int×Bool}(hm:E5 dD target us=some r):dn prog 130 [] [av ff dD,.agg (ga target),.h9 rR tU] (.dm [U r.1,.bool r.2]):=by
 refine dE func130 rfl rfl ?_;unfold E5 at hm;refine aO [(0,.al 66)] [(0,av ff dD),(2,.h9 rR tU),(4,.ptr 66 0)] [(66,.cells 62 (ga target))]<|aH [(1,ax (cb ff dD))] [] [(8,U dD.length)]<|aH [] [] [(9,U 0),(10,U dD.length)]<|A.seq<|A.block ?_
 obtain⟨lQ,iE,lT,hm⟩:=n1 hm;refine axJ (F:=lQ) hm (λ(cI,gJ)=>[(0,av ff dD),(2,.h9 rR tU),(4,.ptr 66 0),(8,U dD.length),(9,U cI),(10,U gJ)]) (λ(cI,gJ)=>[(66,.cells 62 (ga target))]) ?_ ?_
 ·exact fm
 rintro b3 ⟨cI,gJ⟩ hm;rw[lT]at hm;refine A.seq<|aH [] [] [(17,.d (cI<gJ))] ?_
 rcases bL hm with⟨aN,hm⟩|⟨aN,hm⟩
 ·refine bz aN<|A.skip<|A.block<|aH [(4,.sh (1:Int) (by decide))] [17] [(11,U (bE (Int.fdiv (IntKind.wrap .u64 (bE (cI+gJ))) (2 ^ min (1:Int).toNat 64))))] ?_
  obtain⟨cr,h1,hm⟩:=aU hm;obtain⟨aJ,D,hm⟩:=aU hm;refine aH [(3,b7 (ix ff h1)),(6,qb (zm _ _ _ D) zl)] [] [(31,.d (aJ<0))] ?_;rcases bL hm with⟨bw,hm⟩|⟨bw,hm⟩
  ·exact bz bw<|cB [] [9,11,31] [(9,U (bE ((bE (Int.fdiv (IntKind.wrap .u64 (bE (cI+gJ))) (2 ^ min (1:Int).toNat 64)))+(1:Int))))]<|ck (bE ((bE (Int.fdiv (IntKind.wrap .u64 (bE (cI+gJ))) (2 ^ min (1:Int).toNat 64)))+(1:Int)),gJ) hm
  exact bx bw<|cB [] [10,11,31] [(10,U (bE (Int.fdiv (IntKind.wrap .u64 (bE (cI+gJ))) (2 ^ min (1:Int).toNat 64))))]<|ck (cI,bE (Int.fdiv (IntKind.wrap .u64 (bE (cI+gJ))) (2 ^ min (1:Int).toNat 64))) hm
 refine bx aN<|A.exit ?_
 rcases bL hm with⟨cg,hm⟩|⟨cg,hm⟩
 ·obtain⟨e6,aj,hm⟩:=aU hm;obtain⟨bq,aV,hm⟩:=aU hm;refine aO [(4,ax (b0 cg)),(8,b7 (ix ff aj)),(11,qb (zm _ _ _ aV) zl)] [(6,U cI),(7,.d (bq=0))] [] ?_;cases hm;exact A.ret bG
 refine aO [(4,ax (b0 cg))] [(6,U cI),(7,.bool false)] [] ?_;cases hm;exact A.ret bG
def Yt{dD:HC}{target:Int}{us:fe→Int→kr}(zl:cS prog rR)(zm:∀(j6:fe) (HE:Int) (q:Int),us j6 HE=some q→dn prog rR [] ([.agg (tK j6),U HE]++tU) (U q)){r:Int×Bool}(hm:Cl dD target us=some r):dn prog 136 [] [av fN dD,U target,.h9 rR tU] (.dm [U r.1,.bool r.2]):=by
 refine dE func136 rfl rfl ?_;unfold Cl at hm;refine aO [] [(0,av fN dD),(1,U target),(2,.h9 rR tU)] []<|aH [(1,ax (cb fN dD))] [] [(8,U dD.length)]<|aH [] [] [(9,U 0),(10,U dD.length)]<|A.seq<|A.block ?_
 obtain⟨lQ,iE,lT,hm⟩:=n1 hm;refine axJ (F:=lQ) hm (λ(cI,gJ)=>[(0,av fN dD),(1,U target),(2,.h9 rR tU),(8,U dD.length),(9,U cI),(10,U gJ)]) (λ(cI,gJ)=>[]) ?_ ?_
 ·exact fm
 rintro b3 ⟨cI,gJ⟩ hm;rw[lT]at hm;refine A.seq<|aH [] [] [(17,.d (cI<gJ))] ?_
 rcases bL hm with⟨aN,hm⟩|⟨aN,hm⟩
 ·refine bz aN<|A.skip<|A.block<|aH [(4,.sh (1:Int) (by decide))] [17] [(11,U (bE (Int.fdiv (IntKind.wrap .u64 (bE (cI+gJ))) (2 ^ min (1:Int).toNat 64))))] ?_
  obtain⟨cr,h1,hm⟩:=aU hm;obtain⟨aJ,D,hm⟩:=aU hm;refine aH [(3,b7 (ix fN h1)),(6,qb (zm _ _ _ D) zl)] [] [(31,.d (aJ<0))] ?_;rcases bL hm with⟨bw,hm⟩|⟨bw,hm⟩
  ·exact bz bw<|cB [] [9,11,31] [(9,U (bE ((bE (Int.fdiv (IntKind.wrap .u64 (bE (cI+gJ))) (2 ^ min (1:Int).toNat 64)))+(1:Int))))]<|ck (bE ((bE (Int.fdiv (IntKind.wrap .u64 (bE (cI+gJ))) (2 ^ min (1:Int).toNat 64)))+(1:Int)),gJ) hm
  exact bx bw<|cB [] [10,11,31] [(10,U (bE (Int.fdiv (IntKind.wrap .u64 (bE (cI+gJ))) (2 ^ min (1:Int).toNat 64))))]<|ck (cI,bE (Int.fdiv (IntKind.wrap .u64 (bE (cI+gJ))) (2 ^ min (1:Int).toNat 64))) hm
 refine bx aN<|A.exit ?_
 rcases bL hm with⟨cg,hm⟩|⟨cg,hm⟩
 ·obtain⟨e6,aj,hm⟩:=aU hm;obtain⟨bq,aV,hm⟩:=aU hm;refine aO [(4,ax (b0 cg)),(8,b7 (ix fN aj)),(11,qb (zm _ _ _ aV) zl)] [(6,U cI),(7,.d (bq=0))] [] ?_;cases hm;exact A.ret bG
 refine aO [(4,ax (b0 cg))] [(6,U cI),(7,.bool false)] [] ?_;cases hm;exact A.ret bG
variable {fE:cN}
def aqH{v:Int}{r:Int}(hm:JE fE v=some r):dn prog 146 [] [av az fE,U v] (U r):=by
 refine dE func146 rfl rfl ?_;unfold JE at hm;refine aO [] [(0,av az fE),(1,U v)] []<|A.seq<|aH [(1,ax (cb az fE))] [] [(7,U fE.length),(8,U 0)]<|A.block<|axt 0 rfl λdX=>?_
 obtain⟨eT,eU,eW,eO,hm⟩:=fF hm;refine axq (l:=fE) (e3:=0) (B:=eT) (K:=eU) hm (λau=>λ()=>[(0,av az fE),(1,U v),(7,U fE.length),(8,U au)]) (λau=>λ()=>[]) ?_ ?_ ?_
 ·exact fm
 ·rintro au e1 b3 ⟨⟩ eX bF hm;rw[eW]at hm;refine aH [] [] [(9,.d ((au:Int)<fE.length))]<|A.seq<|bz (fC bF)<|A.skip<|A.seq<|A.block<|aH [] [9] [(5,U au)]<|aH [(3,b7 (ix az (eM bF)))] [] [(16,.d (v=e1))] ?_
  rcases bL hm with⟨aN,hm⟩|⟨aN,hm⟩
  ·refine bz aN<|aO [] [(4,U au)] [] ?_
   cases hm;exact A.ret bG
  exact bx aN<|A.skip<|cB [(0,ax (fk bF dX))] [8,5,16] [(8,U ((au+1:Nat):Int))]<|ck () hm
 rintro au ⟨⟩ eX er hm;rw[eO]at hm;refine aH [] [] [(9,.d ((au:Int)<fE.length))]<|A.seq<|bx (fB er)<|A.exit<|aO [] [(4,U (-1))] [] ?_
 cases hm;exact A.ret bG
variable {f:fe→ko}{kv:Nat}{lI:List W}
def apR{fE:HC}(p6:cS prog kv)(p5:∀(j6:fe) (q:Bool),f j6=some q→dn prog kv [] ([.agg (tK j6)]++lI) (.bool q)){r:Int}(hm:Ji fE f=some r):dn prog 180 [] [av fN fE,.h9 kv lI] (U r):=by
 refine dE func180 rfl rfl ?_;unfold Ji at hm;refine aO [] [(0,av fN fE),(1,.h9 kv lI)] []<|A.seq<|aH [(1,ax (cb fN fE))] [] [(7,U fE.length),(8,U 0)]<|A.block<|axt 0 rfl λdX=>?_
 obtain⟨eT,eU,eW,eO,hm⟩:=fF hm;refine axq (l:=fE) (e3:=0) (B:=eT) (K:=eU) hm (λau=>λ()=>[(0,av fN fE),(1,.h9 kv lI),(7,U fE.length),(8,U au)]) (λau=>λ()=>[]) ?_ ?_ ?_
 ·exact fm
 ·rintro au e1 b3 ⟨⟩ eX bF hm;rw[eW]at hm;refine aH [] [] [(9,.d ((au:Int)<fE.length))]<|A.seq<|bz (fC bF)<|A.skip<|A.seq<|A.block<|aH [] [9] [(5,U au)] ?_
  obtain⟨aJ,h1,hm⟩:=aU hm;refine aH [(3,b7 (ix fN (eM bF))),(5,qb (p5 _ _ h1) p6)] [] [(16,.bool aJ)] ?_;rcases bL hm with⟨aN,hm⟩|⟨aN,hm⟩
  ·refine bz aN<|aO [] [(4,U au)] [] ?_
   cases hm;exact A.ret bG
  exact bx aN<|A.skip<|cB [(0,ax (fk bF dX))] [8,5,16] [(8,U ((au+1:Nat):Int))]<|ck () hm
 rintro au ⟨⟩ eX er hm;rw[eO]at hm;refine aH [] [] [(9,.d ((au:Int)<fE.length))]<|A.seq<|bx (fB er)<|A.exit<|aO [] [(4,U (-1))] [] ?_
 cases hm;exact A.ret bG
def ap2{fE:G5}{f:dJ→ko}(p6:cS prog kv)(p5:∀(j6:dJ) (q:Bool),f j6=some q→dn prog kv [] ([.agg (ga j6)]++lI) (.bool q)){r:Int}(hm:Jg fE f=some r):dn prog 181 [] [av ff fE,.h9 kv lI] (U r):=by
 refine dE func181 rfl rfl ?_;unfold Jg at hm;refine aO [] [(0,av ff fE),(1,.h9 kv lI)] []<|A.seq<|aH [(1,ax (cb ff fE))] [] [(7,U fE.length),(8,U 0)]<|A.block<|axt 0 rfl λdX=>?_
 obtain⟨eT,eU,eW,eO,hm⟩:=fF hm;refine axq (l:=fE) (e3:=0) (B:=eT) (K:=eU) hm (λau=>λ()=>[(0,av ff fE),(1,.h9 kv lI),(7,U fE.length),(8,U au)]) (λau=>λ()=>[]) ?_ ?_ ?_
 ·exact fm
 ·rintro au e1 b3 ⟨⟩ eX bF hm;rw[eW]at hm;refine aH [] [] [(9,.d ((au:Int)<fE.length))]<|A.seq<|bz (fC bF)<|A.skip<|A.seq<|A.block<|aH [] [9] [(5,U au)] ?_
  obtain⟨aJ,h1,hm⟩:=aU hm;refine aH [(3,b7 (ix ff (eM bF))),(5,qb (p5 _ _ h1) p6)] [] [(16,.bool aJ)] ?_;rcases bL hm with⟨aN,hm⟩|⟨aN,hm⟩
  ·refine bz aN<|aO [] [(4,U au)] [] ?_
   cases hm;exact A.ret bG
  exact bx aN<|A.skip<|cB [(0,ax (fk bF dX))] [8,5,16] [(8,U ((au+1:Nat):Int))]<|ck () hm
 rintro au ⟨⟩ eX er hm;rw[eO]at hm;refine aH [] [] [(9,.d ((au:Int)<fE.length))]<|A.seq<|bx (fB er)<|A.exit<|aO [] [(4,U (-1))] [] ?_
 cases hm;exact A.ret bG
def ap9{fE:yO}{f:bW→ko}(p6:cS prog kv)(p5:∀(j6:bW) (q:Bool),f j6=some q→dn prog kv [] ([.agg (rM j6)]++lI) (.bool q)){r:Int}(hm:Jf fE f=some r):dn prog 183 [] [av fl fE,.h9 kv lI] (U r):=by
 refine dE func183 rfl rfl ?_;unfold Jf at hm;refine aO [] [(0,av fl fE),(1,.h9 kv lI)] []<|A.seq<|aH [(1,ax (cb fl fE))] [] [(7,U fE.length),(8,U 0)]<|A.block<|axt 0 rfl λdX=>?_
 obtain⟨eT,eU,eW,eO,hm⟩:=fF hm;refine axq (l:=fE) (e3:=0) (B:=eT) (K:=eU) hm (λau=>λ()=>[(0,av fl fE),(1,.h9 kv lI),(7,U fE.length),(8,U au)]) (λau=>λ()=>[]) ?_ ?_ ?_
 ·exact fm
 ·rintro au e1 b3 ⟨⟩ eX bF hm;rw[eW]at hm;refine aH [] [] [(9,.d ((au:Int)<fE.length))]<|A.seq<|bz (fC bF)<|A.skip<|A.seq<|A.block<|aH [] [9] [(5,U au)] ?_
  obtain⟨aJ,h1,hm⟩:=aU hm;refine aH [(3,b7 (ix fl (eM bF))),(5,qb (p5 _ _ h1) p6)] [] [(16,.bool aJ)] ?_;rcases bL hm with⟨aN,hm⟩|⟨aN,hm⟩
  ·refine bz aN<|aO [] [(4,U au)] [] ?_
   cases hm;exact A.ret bG
  exact bx aN<|A.skip<|cB [(0,ax (fk bF dX))] [8,5,16] [(8,U ((au+1:Nat):Int))]<|ck () hm
 rintro au ⟨⟩ eX er hm;rw[eO]at hm;refine aH [] [] [(9,.d ((au:Int)<fE.length))]<|A.seq<|bx (fB er)<|A.exit<|aO [] [(4,U (-1))] [] ?_
 cases hm;exact A.ret bG
def aqD{v:Int}(hm:Fc fE v=some r):dn prog 76 [] [av az fE,U v] (.bool r):=by
 refine dE func76 rfl rfl ?_;unfold Fc at hm;refine aO [] [(0,av az fE),(1,U v)] [] ?_;obtain⟨aJ,h1,hm⟩:=aU hm;refine aO [(2,bI (aqH h1) ald)] [(4,.d (0≤aJ))] [] ?_;cases hm;exact A.ret bG
def apM{fE:HC}(p6:cS prog kv)(p5:∀(j6:fe) (q:Bool),f j6=some q→dn prog kv [] ([.agg (tK j6)]++lI) (.bool q))(hm:E9 fE f=some r):dn prog 132 [] [av fN fE,.h9 kv lI] (.bool r):=by
 refine dE func132 rfl rfl ?_;unfold E9 at hm;refine aO [] [(0,av fN fE),(1,.h9 kv lI)] [] ?_;obtain⟨aJ,h1,hm⟩:=aU hm;refine aO [(2,bI (apR (p6:=p6) (p5:=p5) h1) aln)] [(4,.d (0≤aJ))] [] ?_;cases hm;exact A.ret bG
def O0{fE:G5}{f:dJ→ko}(p6:cS prog kv)(p5:∀(j6:dJ) (q:Bool),f j6=some q→dn prog kv [] ([.agg (ga j6)]++lI) (.bool q))(hm:z7 fE f=some r):dn prog 138 [] [av ff fE,.h9 kv lI] (.bool r):=by
 refine dE func138 rfl rfl ?_;unfold z7 at hm;refine aO [] [(0,av ff fE),(1,.h9 kv lI)] [] ?_;obtain⟨aJ,h1,hm⟩:=aU hm;refine aO [(2,bI (ap2 (p6:=p6) (p5:=p5) h1) alo)] [(4,.d (0≤aJ))] [] ?_;cases hm;exact A.ret bG
def Ak{n:Int}{oF:Int}{mw:Int}(hm:yI n oF mw=some r):dn prog 134 [] [U n,U oF,U mw] (.bool r):=by
 refine dE func134 rfl rfl ?_;unfold yI at hm;refine aO [] [(0,U n),(1,U oF),(2,U mw)] []<|axy [(6,.bool ((decide (oF≤n))&&(decide (n≤mw))))] [] (λhk=>?_) ?_
 ·rcases kF (decide (oF≤n))with aN|aN
  ·exact aO [(3,ax (b0 aN)),(8,ax (oH (q:=decide (n≤mw)) aN))] _ _ hk
  exact aO [(3,ax (b0 aN)),(8,ax (oI (q:=decide (n≤mw)) aN))] _ _ hk
 cases hm;exact A.ret bG
def ZK{a:dJ}{b:dJ}{r:Int}(hm:Cu a b=some r):dn prog 131 [] [.agg (ga a),.agg (ga b)] (U r):=by
 refine dE func131 rfl rfl ?_;unfold Cu at hm;refine aO [(0,.al 175),(1,.al 176)] [(2,.ptr 175 0),(3,.ptr 176 0)] [(175,.cells 62 (ga a)),(176,.cells 62 (ga b))] ?_;obtain⟨aJ,h1,hm⟩:=aU hm;obtain⟨bq,D,hm⟩:=aU hm;obtain⟨cu,aj,hm⟩:=aU hm;refine aO [(4,bI (uv h1) u6),(9,bI (uv D) u6),(11,bI (Gi aj) En)] [(4,U cu)] [] ?_;cases hm;exact A.ret bG
variable {id:Int}{lD:fe}
def ZX{r:Int}(hm:CS lD id=some r):dn prog 137 [] [.agg (tK lD),U id] (U r):=by
 refine dE func137 rfl rfl ?_;unfold CS at hm;refine aO [(0,.al 178)] [(1,U id),(2,.ptr 178 0)] [(178,.cells 31 (tK lD))] ?_;obtain⟨aJ,h1,hm⟩:=aU hm;refine aO [(3,bI (uv h1) u6)] [(4,U aJ)] [] ?_;cases hm;exact A.ret bG
def asu(hm:J1 lD=some r):dn prog 133 [] [.agg (tK lD)] (.bool r):=by
 refine dE func133 rfl rfl ?_;unfold J1 at hm;refine aO [(0,.al 177)] [(1,.ptr 177 0)] [(177,.cells 31 (tK lD))] ?_;obtain⟨aJ,h1,hm⟩:=aU hm;refine aO [(2,bI (Ak h1) BD)] [(2,.bool (!aJ))] [] ?_;cases hm;exact A.ret bG
variable {l:dJ}
def asv(hm:F9 l=some r):dn prog 139 [] [.agg (ga l)] (.bool r):=by
 refine dE func139 rfl rfl ?_;unfold F9 at hm;refine aO [(0,.al 179)] [(1,.ptr 179 0)] [(179,.cells 62 (ga l))] ?_;obtain⟨aJ,h1,hm⟩:=aU hm;rcases bL hm with⟨aN,hm⟩|⟨aN,hm⟩
 ·refine aO [(2,bI (Ak h1) BD),(4,ax (b0 aN))] [(2,.bool true)] [] ?_;cases hm;exact A.ret bG
 obtain⟨bq,D,hm⟩:=aU hm;rcases bL hm with⟨bw,hm⟩|⟨bw,hm⟩
 ·refine aO [(2,bI (Ak h1) BD),(4,ax (b0 aN)),(7,bI (Ak D) BD),(10,ax (b0 bw))] [(2,.bool true)] [] ?_;cases hm;exact A.ret bG
 obtain⟨cu,aj,hm⟩:=aU hm;refine aO [(2,bI (Ak h1) BD),(4,ax (b0 aN)),(7,bI (Ak D) BD),(10,ax (b0 bw)),(13,bI (Ak aj) BD)] [(2,.bool (!cu))] [] ?_;cases hm;exact A.ret bG
variable {nY:bu}
def Qu(hm:CL id nY=some r):dn prog 135 [] [U id,.gP (bV nY)] (.bool r):=by
 refine dE func135 rfl rfl ?_;unfold CL at hm;refine aO [] [(0,U id),(1,.gP (bV nY))] [] ?_;obtain⟨aJ,h1,hm⟩:=aU hm;refine aO [(3,bI (Yt (rR:=137) (tU:=[]) (zl:=Wi) (zm:=λ_ _ _ h=>ZX h) h1) Wh)] [(5,.bool aJ.2)] []<|aO [] [(3,.bool (!aJ.2))] [] ?_
 cases hm;exact A.ret bG
def asw(hm:J3 l nY=some r):dn prog 140 [] [.agg (ga l),.gP [.fn 135 [.gP (bV nY)]]] (.bool r):=by
 refine dE func140 rfl rfl ?_;unfold J3 at hm;refine aO [(0,.al 180)] [(1,.gP [.fn 135 [.gP (bV nY)]]),(2,.ptr 180 0)] [(180,.cells 62 (ga l))] ?_;obtain⟨aJ,h1,hm⟩:=aU hm;rcases bL hm with⟨aN,hm⟩|⟨aN,hm⟩
 ·refine aO [(3,hle [] (Qu h1) NG),(4,ax (b0 aN))] [(3,.bool true)] [] ?_;cases hm;exact A.ret bG
 obtain⟨bq,D,hm⟩:=aU hm;refine aO [(3,hle [] (Qu h1) NG),(4,ax (b0 aN)),(8,hle [] (Qu D) NG)] [(3,.bool bq)] [] ?_;cases hm;exact A.ret bG
def asx(hm:J4 l=some r):dn prog 141 [] [.agg (ga l)] (.bool r):=by
 refine dE func141 rfl rfl ?_;unfold J4 at hm;refine aO [(0,.al 181)] [(1,.ptr 181 0)] [(181,.cells 62 (ga l))]<|aO [] [(2,.d (l.B≤l.A))] [] ?_
 cases hm;exact A.ret bG
variable {t:bu}
def QC{r:Int}(hm:Aj t=some r):dn prog 71 [] [.agg (bV t)] (U r):=by
 refine dE func71 rfl rfl ?_;unfold Aj at hm;refine aO [(0,.al 25)] [(1,.ptr 25 0)] [(25,.cells 28 (bV t))]<|A.seq<|A.block<|axy [(1,.ptr 25 0),(6,.bool ((decide (24<(t.cn.length:Int)))||(decide (60<(t.Links.length:Int)))))] [(25,.cells 28 (bV t))] (λhk=>?_) ?_
 ·rcases kF (decide (24<(t.cn.length:Int)))with aN|aN
  ·exact aO [(2,ax (cb fN t.cn)),(4,ax (b0 aN)),(10,ax (wA (q:=decide (60<(t.Links.length:Int))) aN))] _ _ hk
  exact aO [(2,ax (cb fN t.cn)),(4,ax (b0 aN)),(7,ax (cb ff t.Links)),(10,ax (tV (q:=decide (60<(t.Links.length:Int))) aN))] _ _ hk
 rcases bL hm with⟨bw,hm⟩|⟨bw,hm⟩
 ·refine bz bw<|aO [] [(2,U 3)] [] ?_
  cases hm;exact A.ret bG
 refine bx bw ?_;obtain⟨aJ,h1,hm⟩:=aU hm;refine aH [(2,bI (apM (kv:=133) (lI:=[]) (p6:=alX) (p5:=λ_ _ h=>asu h) h1) alW)] [6] [(17,.bool aJ)] ?_;rcases bL hm with⟨cg,hm⟩|⟨cg,hm⟩
 ·refine bz cg<|aO [] [(2,U 2)] [] ?_
  cases hm;exact A.ret bG
 refine bx cg<|A.skip<|A.seq<|aH [(2,ax (cb fN t.cn))] [17] [(23,U t.cn.length),(24,U 0)]<|A.block<|axO 1 0 rfl rfl rfl λdX=>?_
 obtain⟨eT,eU,eW,eO,hm⟩:=fF hm;refine axq (l:=t.cn) (e3:=0) (B:=eT) (K:=eU) hm (λau=>λ()=>[(1,.ptr 25 0),(23,U t.cn.length),(24,U au)]) (λau=>λ()=>[(25,.cells 28 (bV t))]) ?_ ?_ ?_
 ·exact fm
 ·rintro au e1 b3 ⟨⟩ eX bF hm;rw[eW]at hm;refine aH [] [] [(25,.d ((au:Int)<t.cn.length))]<|A.seq<|bz (fC bF)<|A.skip<|A.seq<|A.block<|aH [] [25] [(3,U au)] ?_
  obtain⟨dx,iu,hm⟩:=h2 hm;refine A.J (J:=dx) (r:=r) (λeL=>[(1,.ptr 25 0),(23,U t.cn.length),(24,U au),(44,.bool eL)]) (λeL=>[(25,.cells 28 (bV t))]) ?_ ?_
  ·rcases bL hm with⟨dR,hm⟩|⟨dR,hm⟩
   ·obtain⟨cr,D,hm⟩:=aU hm;exact cB [(2,ax (b0 dR)),(7,b7 (ix fN D)),(13,b7 (ix fN (eM bF)))] [3] [(44,.d (e1.eR≤cr.eR))]<|ck (decide (e1.eR≤cr.eR)) hm
   exact cB [(2,ax (b0 dR))] [3] [(44,.bool false)]<|ck false hm
  rintro eL hm;rw[iu]at hm;rcases bL hm with⟨eV,hm⟩|⟨eV,hm⟩
  ·refine bz eV<|aO [] [(2,U 25)] [] ?_
   cases hm;exact A.ret bG
  exact bx eV<|A.skip<|cB [(0,ax (fk bF dX))] [24,44] [(24,U ((au+1:Nat):Int))]<|ck () hm
 rintro au ⟨⟩ eX er hm;rw[eO]at hm;refine aH [] [] [(25,.d ((au:Int)<t.cn.length))]<|A.seq<|bx (fB er)<|A.exit<|c0 [(1,.al 130)] [23,24,25] [(4,.ptr 130 0)] [] [(130,.c 188 [.fn 135 [.ptr 25 0]])]<|A.seq<|A.block ?_
 obtain⟨bq,aj,hm⟩:=aU hm;refine aH [(2,bI (O0 (kv:=139) (lI:=[]) (p6:=ak8) (p5:=λ_ _ h=>asv h) aj) NH)] [] [(47,.bool bq)] ?_;rcases bL hm with⟨gY,hm⟩|⟨gY,hm⟩
 ·refine bz gY<|aO [] [(2,U 2)] [] ?_
  cases hm;exact A.ret bG
 refine bx gY ?_;obtain⟨cu,aV,hm⟩:=aU hm;refine c0 [(3,hle [130,25] (O0 (kv:=140) (lI:=[.gP [.fn 135 [.gP (bV t)]]]) (p6:=ak9) (p5:=λ_ _ h=>asw h) aV) NH)] [4,47] [(51,.bool cu)] [130] [] ?_;rcases bL hm with⟨i1,hm⟩|⟨i1,hm⟩
 ·refine bz i1<|aO [] [(2,U 4)] [] ?_
  cases hm;exact A.ret bG
 refine bx i1 ?_;obtain⟨eg,b4,hm⟩:=aU hm;refine aH [(2,bI (O0 (kv:=141) (lI:=[]) (p6:=ala) (p5:=λ_ _ h=>asx h) b4) NH)] [51] [(56,.bool eg)] ?_;rcases bL hm with⟨me,hm⟩|⟨me,hm⟩
 ·refine bz me<|aO [] [(2,U 8)] [] ?_
  cases hm;exact A.ret bG
 refine bx me<|A.skip<|A.seq<|aH [(2,ax (cb ff t.Links))] [56] [(62,U t.Links.length),(63,U 0)]<|A.block<|axO 1 1 rfl rfl rfl λgr=>?_
 obtain⟨jQ,iH,jZ,j0,hm⟩:=fF hm;refine axq (l:=t.Links) (e3:=0) (B:=jQ) (K:=iH) hm (λbN=>λ()=>[(1,.ptr 25 0),(62,U t.Links.length),(63,U bN)]) (λbN=>λ()=>[(25,.cells 28 (bV t))]) ?_ ?_ ?_
 ·exact fm
 ·rintro bN e2 gX ⟨⟩ h6 eu hm;rw[jZ]at hm;refine aH [] [] [(64,.d ((bN:Int)<t.Links.length))]<|A.seq<|bz (fC eu)<|A.skip<|A.seq<|A.block<|aH [] [64] [(5,U bN)] ?_
  obtain⟨gv,k4,hm⟩:=h2 hm;refine A.J (J:=gv) (r:=r) (λiz=>[(1,.ptr 25 0),(62,U t.Links.length),(63,U bN),(82,.bool iz)]) (λiz=>[(25,.cells 28 (bV t))]) ?_ ?_
  ·rcases bL hm with⟨qt,hm⟩|⟨qt,hm⟩
   ·obtain⟨e6,dz,hm⟩:=aU hm;obtain⟨dQ,fz,hm⟩:=aU hm;exact cB [(2,ax (b0 qt)),(7,b7 (ix ff dz)),(12,b7 (ix ff (eM eu))),(14,bI (ZK fz) Wg)] [5] [(82,.d (0≤dQ))]<|ck (decide (0≤dQ)) hm
   exact cB [(2,ax (b0 qt))] [5] [(82,.bool false)]<|ck false hm
  rintro iz hm;rw[k4]at hm;rcases bL hm with⟨qs,hm⟩|⟨qs,hm⟩
  ·refine bz qs<|aO [] [(2,U 25)] [] ?_
   cases hm;exact A.ret bG
  exact bx qs<|A.skip<|cB [(0,ax (fk eu gr))] [63,82] [(63,U ((bN+1:Nat):Int))]<|ck () hm
 rintro bN ⟨⟩ h6 iR hm;rw[j0]at hm;refine aH [] [] [(64,.d ((bN:Int)<t.Links.length))]<|A.seq<|bx (fB iR)<|A.exit<|aO [] [(2,U 0)] [] ?_
 cases hm;exact A.ret bG
def QD(hm:CX t=some r):dn prog 129 [] [.agg (bV t)] (.bool r):=by
 refine dE func129 rfl rfl ?_;unfold CX at hm;refine aO [(0,.al 174)] [(1,.ptr 174 0)] [(174,.cells 28 (bV t))] ?_;obtain⟨aJ,h1,hm⟩:=aU hm;refine aO [(1,bI (QC h1) N9)] [(2,.d (aJ=0))] [] ?_;cases hm;exact A.ret bG
variable {qI:Int}
def as0{r:fe×Bool}(hm:Gh t qI=some r):dn prog 144 [] [.agg (bV t),U qI] (.dm [.agg (tK r.1),.bool r.2]):=by
 refine dE func144 rfl rfl ?_;unfold Gh at hm;refine aO [(0,.al 108),(1,.al 85)] [(1,U qI),(2,.ptr 108 0),(4,.ptr 85 0)] [(108,.cells 28 (bV t)),(85,.c 31 [U 0,.bool false])] ?_;obtain⟨aJ,h1,hm⟩:=aU hm;refine aH [(3,bI (Yt (rR:=137) (tU:=[]) (zl:=Wi) (zm:=λ_ _ _ h=>ZX h) h1) Wh)] [1] [(6,U aJ.1),(7,.bool aJ.2)]<|A.seq<|aH [] [7] [(16,.bool (!aJ.2))] ?_
 rcases bL hm with⟨aN,hm⟩|⟨aN,hm⟩
 ·refine bz aN<|c0 [] [2,6,16] [(5,.bool false)] [108] [] ?_
  cases hm;exact A.ret bG
 refine bx aN<|A.skip ?_
 obtain⟨cr,D,hm⟩:=aU hm;refine aO [(3,b7 (ix fN D))] [(4,.ptr 85 0),(5,.bool true)] [(85,.cells 31 (tK cr))] ?_;cases hm;exact A.ret bG
def aab(hm:CU t qI=some r):dn prog 73 [] [.agg (bV t),U qI] (.bool r):=by
 refine dE func73 rfl rfl ?_;unfold CU at hm;refine aO [(0,.al 145)] [(1,U qI),(2,.ptr 145 0)] [(145,.cells 28 (bV t))] ?_;obtain⟨aJ,h1,hm⟩:=aU hm;refine aH [(2,bI (as0 h1) alc),(6,.al 73005)] [1] [(6,.bool aJ.2)] ?_;obtain⟨bq,D,hm⟩:=aU hm;rcases bL hm with⟨aN,hm⟩|⟨aN,hm⟩
 ·refine aO [(1,bI (QD D) NF),(2,ax (b0 aN))] [(4,.bool aJ.2)] [] ?_;cases hm;exact A.ret bG
 refine aO [(1,bI (QD D) NF),(2,ax (b0 aN))] [(4,.bool false)] [] ?_;cases hm;exact A.ret bG
def ZY{ht:Int}{g5:Int}{r:Int×Bool}(hm:CT t ht g5=some r):dn prog 70 [] [.agg (bV t),U ht,U g5] (.dm [U r.1,.bool r.2]):=by
 refine dE func70 rfl rfl ?_;unfold CT at hm;refine aO [(0,.al 89)] [(1,U ht),(2,U g5),(3,.ptr 89 0)] [(89,.cells 28 (bV t))]<|A.seq ?_
 obtain⟨aJ,h1,hm⟩:=aU hm;refine aH [(1,bI (QD h1) NF)] [] [(12,.bool (!aJ))] ?_;rcases bL hm with⟨aN,hm⟩|⟨aN,hm⟩
 ·refine bz aN<|aO [] [(6,U 0),(7,.bool false)] [] ?_
  cases hm;exact A.ret bG
 refine bx aN<|A.skip ?_
 obtain⟨bq,D,hm⟩:=aU hm;refine aH [(9,bI (apL (rR:=131) (tU:=[]) (zl:=Wg) (zm:=λ_ _ _ h=>ZK h) D) alV)] [12] [(8,U bq.1),(9,.bool bq.2)]<|A.seq<|A.block<|aH [] [9] [(26,.bool (!bq.2))] ?_
 rcases bL hm with⟨bw,hm⟩|⟨bw,hm⟩
 ·refine bz bw<|aO [] [(6,U 0),(7,.bool false)] [] ?_
  cases hm;exact A.ret bG
 refine bx bw<|aH [] [1,2,26] [(29,.d (ht<g5))] ?_
 rcases bL hm with⟨cg,hm⟩|⟨cg,hm⟩
 ·refine bz cg ?_;obtain⟨cr,aj,hm⟩:=aU hm;refine aO [(3,b7 (ix ff aj))] [(6,U cr.ki),(7,.bool true)] [] ?_;cases hm;exact A.ret bG
 refine bx cg<|A.skip ?_
 obtain⟨e6,aV,hm⟩:=aU hm;refine aO [(3,b7 (ix ff aV))] [(6,U e6.lJ),(7,.bool true)] [] ?_;cases hm;exact A.ret bG
end
section
open Go Go.Proofs.Tryz List
set_option maxRecDepth 100000
set_option linter.all false
variable {dD:Int}
def asK{r:Int}(hm:QK dD=some r):dn prog 207 [] [.int .u64 dD] (U r):=by
 refine dE func207 rfl rfl ?_;unfold QK at hm;refine aO [] [(0,.int .u64 dD),(2,U 0)] [] ?_;obtain⟨dx,iu,hm⟩:=h2 hm;refine A.J (J:=dx) (r:=r) (λ(aJ,jL)=>[(0,.int .u64 aJ),(2,U jL)]) (λ(aJ,jL)=>[]) ?_ ?_
 ·refine aH [] [] [(4,.d (4294967296≤dD))] ?_;rcases bL hm with⟨aN,hm⟩|⟨aN,hm⟩
  ·exact bz aN<|aO [(1,.sh (32:Int) (by decide))] [(0,.int .u64 (Int.fdiv dD (2 ^ min (32:Int).toNat 64)))] []<|cB [] [] [(2,U 32)]<|ck (Int.fdiv dD (2 ^ min (32:Int).toNat 64),(32:Int)) hm
  exact bx aN<|A.skip<|ck (dD,(0:Int)) hm
 rintro⟨aJ,jL⟩ hm;rw[iu]at hm;obtain⟨gv,k4,hm⟩:=h2 hm;refine A.J (J:=gv) (r:=r) (λ(bq,mx)=>[(0,.int .u64 bq),(2,U mx)]) (λ(bq,mx)=>[]) ?_ ?_
 ·refine aH [] [] [(8,.d (65536≤aJ))] ?_;rcases bL hm with⟨bw,hm⟩|⟨bw,hm⟩
  ·exact bz bw<|aH [(1,.sh (16:Int) (by decide))] [0,8] [(0,.int .u64 (Int.fdiv aJ (2 ^ min (16:Int).toNat 64)))]<|cB [] [2] [(2,U (bE (jL+16)))]<|ck (Int.fdiv aJ (2 ^ min (16:Int).toNat 64),bE (jL+16)) hm
  exact bx bw<|A.skip<|ck (aJ,jL) hm
 rintro⟨bq,mx⟩ hm;rw[k4]at hm;obtain⟨kP,pF,hm⟩:=h2 hm;refine A.J (J:=kP) (r:=r) (λ(cu,Db)=>[(0,.int .u64 cu),(2,U Db)]) (λ(cu,Db)=>[]) ?_ ?_
 ·refine aH [] [] [(14,.d (256≤bq))] ?_;rcases bL hm with⟨cg,hm⟩|⟨cg,hm⟩
  ·exact bz cg<|aH [(1,.sh (8:Int) (by decide))] [0,14] [(0,.int .u64 (Int.fdiv bq (2 ^ min (8:Int).toNat 64)))]<|cB [] [2] [(2,U (bE (mx+8)))]<|ck (Int.fdiv bq (2 ^ min (8:Int).toNat 64),bE (mx+8)) hm
  exact bx cg<|A.skip<|ck (bq,mx) hm
 rintro⟨cu,Db⟩ hm;rw[pF]at hm;obtain⟨I7,h1,hm⟩:=aU hm;refine aO [(3,.is (⟨#[0,1,2,2,3,3,3,3,4,4,4,4,4,4,4,4,5,5,5,5,5,5,5,5,5,5,5,5,5,5,5,5,6,6,6,6,6,6,6,6,6,6,6,6,6,6,6,6,6,6,6,6,6,6,6,6,6,6,6,6,6,6,6,6,7,7,7,7,7,7,7,7,7,7,7,7,7,7,7,7,7,7,7,7,7,7,7,7,7,7,7,7,7,7,7,7,7,7,7,7,7,7,7,7,7,7,7,7,7,7,7,7,7,7,7,7,7,7,7,7,7,7,7,7,7,7,7,7,8,8,8,8,8,8,8,8,8,8,8,8,8,8,8,8,8,8,8,8,8,8,8,8,8,8,8,8,8,8,8,8,8,8,8,8,8,8,8,8,8,8,8,8,8,8,8,8,8,8,8,8,8,8,8,8,8,8,8,8,8,8,8,8,8,8,8,8,8,8,8,8,8,8,8,8,8,8,8,8,8,8,8,8,8,8,8,8,8,8,8,8,8,8,8,8,8,8,8,8,8,8,8,8,8,8,8,8,8,8,8,8,8,8,8,8,8,8,8,8,8,8,8,8,8,8,8,8]⟩:ByteArray) (IntKind.wrap .u8 cu) I7 (ad1 h1))] [(2,U (bE (Db+(bE (I7.toNat:Int)))))] [] ?_;cases hm;exact A.ret bG
def as1{r:Int}(hm:QW dD=some r):dn prog 178 [] [.int .u64 dD] (U r):=by
 refine dE func178 rfl rfl ?_;unfold QW at hm;refine aO [] [(0,.int .u64 dD)] []<|A.seq<|axA rfl rfl<|A.skip ?_
 obtain⟨aJ,h1,hm⟩:=aU hm;refine aO [(1,bI (asK h1) als)] [(2,U aJ)] [] ?_;cases hm;exact A.ret bG
variable {r:Unit}
def ap3(hm:O1=some r):dn prog 216 [] [.dh,U 0,U 0] (.dm []):=by
 refine dE func216 rfl rfl ?_;unfold O1 at hm;refine aO [] [(0,.dh),(1,U 0),(2,U 0),(6,U 1)] []<|A.block ?_
 obtain⟨lQ,iE,lT,hm⟩:=n1 hm;refine axJ (F:=lQ) hm (λ()=>[(0,.dh),(1,U 0),(2,U 0),(6,U 1)]) (λ()=>[]) ?_ ?_
 ·exact fm
 rintro b3 ⟨⟩ hm;rw[lT]at hm;refine A.seq<|aH [] [] [(12,.bool false)] ?_
 refine axA rfl rfl<|A.exit ?_
 obtain rfl:=nU hm;exact axv cQ [] rfl (by kernel_rfl)
def aqf{Gq:Int}(hm:Qh Gq=some r):dn prog 182 [] [.dh,U 0,U 0,U Gq] (.dm []):=by
 refine dE func182 rfl rfl ?_;unfold Qh at hm;refine aO [] [(0,.dh),(1,U 0),(2,U 0),(3,U Gq),(8,.bool true)] []<|aH [] [] [(9,.bool true)]<|A.block ?_
 obtain⟨lQ,iE,lT,hm⟩:=n1 hm;refine axJ (F:=lQ) hm (λ()=>[(0,.dh),(1,U 0),(2,U 0),(3,U Gq),(8,.bool true),(9,.bool true)]) (λ()=>[]) ?_ ?_
 ·exact fm
 rintro b3 ⟨⟩ hm;rw[lT]at hm;refine A.block<|aH [] [] [(10,U 0)] ?_
 refine A.seq<|aH [] [] [(23,.bool true)] ?_
 refine axD rfl rfl ?_;obtain⟨aJ,h1,hm⟩:=aU hm;refine aO [(3,WO 1 (ap3 h1) alu)] [] [] ?_;cases hm;exact A.ret bG
def aqw(hm:ZD=some r):dn prog 145 [] [.dh] (.dm []):=by
 refine dE func145 rfl rfl ?_;unfold ZD at hm;refine aO [] [(0,.dh),(2,U 0)] [] ?_;obtain⟨aJ,h1,hm⟩:=aU hm;obtain⟨bq,D,hm⟩:=aU hm;refine Ko [(4,bI (as1 h1) alm),(5,WO 1 (aqf D) alp)] [] [] ?_;obtain rfl:=nU hm;exact axv cQ [] rfl (by kernel_rfl)
end
section
set_option linter.all false
open Go Go.Proofs.Tryz
def ayx:Shelf.Ren:=
 {  f:=λx=>match x with|189=>145|125=>178|257=>182|128=>206|129=>207|294=>216|295=>217|296=>218|297=>219|298=>220|299=>221|216=>185|300=>222|301=>223|328=>243|329=>236|330=>237|331=>244|332=>245|215=>164|343=>260|n=>n,t:=λx=>match x with|28=>22|3=>3|46=>178|0=>0|51=>252|53=>254|4=>4|183=>246|182=>245|131=>89|5=>5|9=>9|218=>272|222=>276|228=>289|229=>290|n=>n,g:=λn=>n}
def ayw:Lays.n189 prog ayx:=
  {mixed:=by kernel_rfl,f125:=Eq.trans func178 (congrArg some (by kernel_rfl)),f128:=Eq.trans func206 (congrArg some (by kernel_rfl)),
     f129:=Eq.trans func207 (congrArg some (by kernel_rfl)),f189:=Eq.trans func145 (congrArg some (by kernel_rfl)),f215:=Eq.trans func164 (congrArg some (by kernel_rfl)),
     f216:=Eq.trans func185 (congrArg some (by kernel_rfl)),f257:=Eq.trans func182 (congrArg some (by kernel_rfl)),f294:=Eq.trans func216 (congrArg some (by kernel_rfl)),
     f295:=Eq.trans func217 (congrArg some (by kernel_rfl)),f296:=Eq.trans func218 (congrArg some (by kernel_rfl)),f297:=Eq.trans func219 (congrArg some (by kernel_rfl)),
     f298:=Eq.trans func220 (congrArg some (by kernel_rfl)),f299:=Eq.trans func221 (congrArg some (by kernel_rfl)),f300:=Eq.trans func222 (congrArg some (by kernel_rfl)),
     f301:=Eq.trans func223 (congrArg some (by kernel_rfl)),f328:=Eq.trans func243 (congrArg some (by kernel_rfl)),f329:=Eq.trans func236 (congrArg some (by kernel_rfl)),
     f330:=Eq.trans func237 (congrArg some (by kernel_rfl)),f331:=Eq.trans func244 (congrArg some (by kernel_rfl)),f332:=Eq.trans func245 (congrArg some (by kernel_rfl)),
     f343:=Eq.trans func260 (congrArg some (by kernel_rfl)),t0:=underlying0,a0:=isAgg0,z0:=sizeOf0,v0:=zeroValue0,t3:=underlying3,a3:=isAgg3,
     z3:=sizeOf3,v3:=zeroValue3,t4:=underlying4,a4:=isAgg4,z4:=sizeOf4,v4:=zeroValue4,t5:=underlying5,a5:=isAgg5,z5:=sizeOf5,
     v5:=zeroValue5,t9:=underlying9,a9:=isAgg9,z9:=sizeOf9,v9:=zeroValue9,t28:=underlying22,a28:=isAgg22,z28:=sizeOf22,v28:=zeroValue22,
     t46:=underlying178,a46:=isAgg178,z46:=sizeOf178,v46:=zeroValue178,t51:=underlying252,a51:=isAgg252,z51:=sizeOf252,v51:=zeroValue252,
     t53:=underlying254,a53:=isAgg254,z53:=sizeOf254,v53:=zeroValue254,t131:=underlying89,a131:=isAgg89,z131:=sizeOf89,v131:=zeroValue89,
     t182:=underlying245,a182:=isAgg245,z182:=sizeOf245,v182:=zeroValue245,t183:=underlying246,a183:=isAgg246,z183:=sizeOf246,v183:=zeroValue246,
     t218:=underlying272,a218:=isAgg272,z218:=sizeOf272,v218:=zeroValue272,t222:=underlying276,a222:=isAgg276,z222:=sizeOf276,v222:=zeroValue276,
     t228:=underlying289,a228:=isAgg289,z228:=sizeOf289,v228:=zeroValue289,t229:=underlying290,a229:=isAgg290,z229:=sizeOf290,v229:=zeroValue290}
def adR:Tm prog 145:=λcV off aT zs w h1 D aj=>Any.slices_Sort_int ayw cV off aT zs w h1 D aj
end
section
set_option linter.all false
open Go Go.Proofs.Tryz
def T6{d T:Nat}(zs:cN)(h:zs.length<4611686018427387904):gZ prog 145 [(d,.slice T 1 (aM az zs) 0 false)] [.own d] (λa aL=>a=.dm []∧aL=[(d,.slice T 1 (aM az (mL zs)) 0 false)]):=
 ab1 adR (aqw (r:=()) (by kernel_rfl)) zs h
end
section
open Go Go.Proofs.Tryz List
set_option maxRecDepth 100000
set_option linter.all false
def asL{t:cN}{r:eo}(hm:F7 t=some r):gZ prog 12 [] [av az t] (λa aL=>a=.ptr 1 0∧aL=[(1,.cells 103 (hp r))]):=by
 refine dE func12 rfl rfl ?_;unfold F7 at hm;refine aO [] [(0,av az t)] [] ?_;obtain⟨dk,h1,hm⟩:=aU hm;refine aO [(2,ax (cb az t)),(4,j4 (sl az h1)),(6,.al 157)] [(2,.ptr 157 0)] [(157,.c 103 [av az dk,U 0])]<|A.ret ?_
 obtain rfl:=nU hm;exact axv cQ [.ja 157 1] rfl (by kernel_rfl)
variable {r:Int×eo}{t:eo}
def arR(hm:Ff t=some r):gZ prog 61 [(1,.cells 103 (hp t))] [.ptr 1 0] (λa aL=>a=U r.1∧aL=[(1,.cells 103 (hp r.2))]):=by
 refine dE func61 rfl rfl ?_;unfold Ff at hm;refine aO [] [(0,.ptr 1 0)] [(1,.cells 103 (hp t))]<|A.seq<|aH [(8,ax (cb az t.L))] [] [(12,.d ((t.L.length:Int)≤t.At))] ?_
 rcases bL hm with⟨aN,hm⟩|⟨aN,hm⟩
 ·refine bz aN<|aH [] [0,12] [(2,U 0)] ?_
  cases hm;exact A.ret bG
 refine bx aN<|A.skip<|c0 [] [12] [] [1] [(1,.c 103 [av az t.L,U (bE (t.At+1))])] ?_
 obtain⟨cr,h1,hm⟩:=aU hm;refine aH [(9,b7 (ix az h1))] [0] [(2,U cr)] ?_;cases hm;exact A.ret bG
def asM{dD:Int}{n:Int}{r:Int}(hm:F8 dD n=some r):dn prog 60 [] [U dD,U n] (U r):=by
 refine dE func60 rfl rfl ?_;unfold F8 at hm;refine aO [] [(0,U dD),(1,U n)] []<|A.seq<|aH [] [] [(6,.d (n<1))] ?_
 rcases bL hm with⟨aN,hm⟩|⟨aN,hm⟩
 ·refine bz aN<|aO [] [(4,U 0)] [] ?_
  cases hm;exact A.ret bG
 refine bx aN<|A.skip ?_
 obtain⟨h1,hm⟩:=mD hm;refine aH [(2,.qr n (of_decide_eq_true h1))] [0,6] [(0,U (Int.tmod dD n))] ?_;obtain⟨dx,iu,hm⟩:=h2 hm;refine A.J (J:=dx) (r:=r) (λaJ=>[(0,U aJ)]) (λaJ=>[]) ?_ ?_
 ·refine aH [] [] [(11,.d (Int.tmod dD n<0))] ?_;rcases bL hm with⟨bw,hm⟩|⟨bw,hm⟩
  ·exact bz bw<|Ko [] [(0,U (bE ((Int.tmod dD n)+n)))] []<|ck (bE ((Int.tmod dD n)+n)) hm
  exact bx bw<|A.skip<|ck (Int.tmod dD n) hm
 rintro aJ hm;rw[iu]at hm;refine aO [] [(4,U aJ)] [] ?_;cases hm;exact A.ret bG
def q5{n:Int}(hm:ot t n=some r):gZ prog 14 [(1,.cells 103 (hp t))] [.ptr 1 0,U n] (λa aL=>a=U r.1∧aL=[(1,.cells 103 (hp r.2))]):=by
 refine dE func14 rfl rfl ?_;unfold ot at hm;refine aO [] [(0,.ptr 1 0),(1,U n)] [(1,.cells 103 (hp t))] ?_;obtain⟨aJ,h1,hm⟩:=aU hm;obtain⟨bq,D,hm⟩:=aU hm;refine aO [(1,gW [] (arR h1) amH),(3,bI (asM D) amG)] [(4,U bq)] [(1,.cells 103 (hp aJ.2))] ?_;cases hm;exact A.ret bG
def Qj{lo:Int}{hi:Int}(hm:Ad t lo hi=some r):gZ prog 28 [(1,.cells 103 (hp t))] [.ptr 1 0,U lo,U hi] (λa aL=>a=U r.1∧aL=[(1,.cells 103 (hp r.2))]):=by
 refine dE func28 rfl rfl ?_;unfold Ad at hm;refine aO [] [(0,.ptr 1 0),(1,U lo),(2,U hi)] [(1,.cells 103 (hp t))] ?_;obtain⟨aJ,h1,hm⟩:=aU hm;refine aO [(6,gW [] (q5 h1) rW)] [(6,U (bE (lo+aJ.1)))] [(1,.cells 103 (hp aJ.2))] ?_;cases hm;exact A.ret bG
variable {l:cN}
def yb(hm:s9 t l=some r):gZ prog 59 [(1,.cells 103 (hp t))] [.ptr 1 0,av az l] (λa aL=>a=U r.1∧aL=[(1,.cells 103 (hp r.2))]):=by
 refine dE func59 rfl rfl ?_;unfold s9 at hm;refine aO [] [(0,.ptr 1 0),(1,av az l)] [(1,.cells 103 (hp t))] ?_;obtain⟨aJ,h1,hm⟩:=aU hm;obtain⟨cr,D,hm⟩:=aU hm;refine aO [(3,ax (cb az l)),(4,gW [] (q5 h1) rW),(5,b7 (ix az D))] [(4,U cr)] [(1,.cells 103 (hp aJ.2))] ?_;cases hm;exact A.ret bG
variable {en:Int}
def vw{r:Bool}(hm:q7 l en=some r):dn prog 26 [] [av az l,U en] (.bool r):=by
 refine dE func26 rfl rfl ?_;unfold q7 at hm;refine aO [] [(0,av az l),(1,U en)] []<|A.seq<|aH [] [] [(5,U 0)]<|A.block<|axt 0 rfl λdX=>?_
 obtain⟨eT,eU,eW,eO,hm⟩:=fF hm;refine axq (l:=l) (e3:=0) (B:=eT) (K:=eU) hm (λau=>λ()=>[(0,av az l),(1,U en),(5,U au)]) (λau=>λ()=>[]) ?_ ?_ ?_
 ·exact fm
 ·rintro au e1 b3 ⟨⟩ eX bF hm;rw[eW]at hm;refine A.seq<|aH [(2,ax (cb az l))] [] [(9,.d ((au:Int)<l.length))] ?_
  refine bz (fC bF)<|A.skip<|A.seq<|A.block<|aH [(2,b7 (ix az (eM bF)))] [9] [(17,.d (e1=en))] ?_
  rcases bL hm with⟨aN,hm⟩|⟨aN,hm⟩
  ·refine bz aN<|aO [] [(4,.bool true)] [] ?_
   cases hm;exact A.ret bG
  exact bx aN<|A.skip<|cB [(1,ax (fk bF dX))] [5,17] [(5,U ((au+1:Nat):Int))]<|ck () hm
 rintro au ⟨⟩ eX er hm;rw[eO]at hm;refine A.seq<|aH [(2,ax (cb az l))] [] [(9,.d ((au:Int)<l.length))] ?_
 refine bx (fB er)<|A.exit<|aO [] [(4,.bool false)] [] ?_
 cases hm;exact A.ret bG
def JL{r:(cN)}(hm:uy l en=some r):dn prog 46 [] [av az l,U en] (av az r):=by
 refine dE func46 rfl rfl ?_;unfold uy at hm;refine aO [] [(0,av az l),(1,U en)] []<|aH [] [] [(5,U 0)]<|A.seq<|A.block ?_
 obtain⟨lQ,iE,lT,hm⟩:=n1 hm;refine axJ (F:=lQ) hm (λhw=>[(0,av az l),(1,U en),(5,U hw)]) (λhw=>[]) ?_ ?_
 ·exact fm
 rintro b3 hw hm;rw[lT]at hm;refine A.seq ?_;obtain⟨dx,iu,hm⟩:=h2 hm;refine A.J (J:=dx) (r:=r) (λeL=>[(0,av az l),(1,U en),(5,U hw),(18,.bool eL)]) (λeL=>[]) ?_ ?_
 ·rcases bL hm with⟨aN,hm⟩|⟨aN,hm⟩
  ·obtain⟨cr,h1,hm⟩:=aU hm;exact cB [(2,ax (cb az l)),(4,ax (b0 aN)),(7,b7 (ix az h1))] [] [(18,.d (cr<en))]<|ck (decide (cr<en)) hm
  exact cB [(2,ax (cb az l)),(4,ax (b0 aN))] [] [(18,.bool false)]<|ck false hm
 rintro eL hm;rw[iu]at hm;rcases bL hm with⟨bw,hm⟩|⟨bw,hm⟩
 ·exact bz bw<|A.skip<|A.block<|cB [] [5,18] [(5,U (bE (hw+1)))]<|ck (bE (hw+1)) hm
 refine bx bw<|A.exit<|A.seq ?_
 obtain⟨gv,k4,hm⟩:=h2 hm;refine A.J (J:=gv) (r:=r) (λiz=>[(0,av az l),(1,U en),(5,U hw),(32,.bool iz)]) (λiz=>[]) ?_ ?_
 ·rcases bL hm with⟨cg,hm⟩|⟨cg,hm⟩
  ·obtain⟨e6,D,hm⟩:=aU hm;exact cB [(2,ax (cb az l)),(4,ax (b0 cg)),(7,b7 (ix az D))] [18] [(32,.d (e6=en))]<|ck (decide (e6=en)) hm
  exact cB [(2,ax (cb az l)),(4,ax (b0 cg))] [18] [(32,.bool false)]<|ck false hm
 rintro iz hm;rw[k4]at hm;rcases bL hm with⟨dR,hm⟩|⟨dR,hm⟩
 ·refine bz dR<|aO [] [(4,av az l)] [] ?_
  cases hm;exact A.ret bG
 refine bx dR<|A.skip ?_
 obtain⟨dk,aj,hm⟩:=aU hm;obtain⟨iD,aV,hm⟩:=aU hm;refine c0 [(1,.al 46035),(4,j4 (WQ az aj)),(5,m4 164 (ap az (bytes:=8) (by decide) aV))] [1,32] [(6,.own 164)] [] [(164,.slice 3 1 (aM az iD) 0 false)] ?_;obtain⟨kL,b4,hm⟩:=aU hm;obtain⟨pW,dz,hm⟩:=aU hm;refine axr cQ [.dO [164]] [(3,sD (sl az b4)),(5,anY 165 Et (ap az (bytes:=8) (by decide) dz) (ah4 az aV (Nat.succ_pos _)))] [(4,.own 165)] [(165,.slice 3 1 (aM az pW) 0 false)] (by kernel_rfl)<|A.ret ?_
 obtain rfl:=nU hm;exact axv cQ [.dO [165]] rfl (by kernel_rfl)
def ZL{a:cN}{b:cN}{r:Bool}(hm:CM a b=some r):dn prog 45 [] [av az a,av az b] (.bool r):=by
 refine dE func45 rfl rfl ?_;unfold CM at hm;refine aO [] [(0,av az a),(1,av az b)] []<|A.seq<|aH [(1,ax (cb az a)),(3,ax (cb az b))] [] [(10,.bool (!decide ((a.length:Int)=(b.length:Int))))] ?_
 rcases bL hm with⟨aN,hm⟩|⟨aN,hm⟩
 ·refine bz aN<|aO [] [(4,.bool false)] [] ?_
  cases hm;exact A.ret bG
 refine bx aN<|A.skip<|A.seq<|aH [] [10] [(5,U 0)]<|A.block<|axt 0 rfl λdX=>?_
 obtain⟨eT,eU,eW,eO,hm⟩:=fF hm;refine axq (l:=a) (e3:=0) (B:=eT) (K:=eU) hm (λau=>λ()=>[(0,av az a),(1,av az b),(5,U au)]) (λau=>λ()=>[]) ?_ ?_ ?_
 ·exact fm
 ·rintro au e1 b3 ⟨⟩ eX bF hm;rw[eW]at hm;refine A.seq<|aH [(2,ax (cb az a))] [] [(14,.d ((au:Int)<a.length))] ?_
  refine bz (fC bF)<|A.skip<|A.seq<|A.block ?_
  obtain⟨cr,h1,hm⟩:=aU hm;refine aH [(2,b7 (ix az (eM bF))),(6,b7 (ix az h1))] [14] [(25,.bool (!decide (e1=cr)))] ?_;rcases bL hm with⟨bw,hm⟩|⟨bw,hm⟩
  ·refine bz bw<|aO [] [(4,.bool false)] [] ?_
   cases hm;exact A.ret bG
  exact bx bw<|A.skip<|cB [(1,ax (fk bF dX))] [5,25] [(5,U ((au+1:Nat):Int))]<|ck () hm
 rintro au ⟨⟩ eX er hm;rw[eO]at hm;refine A.seq<|aH [(2,ax (cb az a))] [] [(14,.d ((au:Int)<a.length))] ?_
 refine bx (fB er)<|A.exit<|aO [] [(4,.bool true)] [] ?_
 cases hm;exact A.ret bG
end
section
open Go Go.Proofs.Tryz List
set_option maxRecDepth 100000
set_option linter.all false
def J8{n:Int}{r:Bool}(hm:CV n=some r):dn prog 149 [] [U n] (.bool r):=by
 refine dE func149 rfl rfl ?_;unfold CV at hm;refine aO [] [(0,U n)] []<|axy [(2,.bool ((decide (1≤n))&&(decide (n≤99))))] [] (λhk=>?_) ?_
 ·rcases kF (decide (1≤n))with aN|aN
  ·exact aO [(2,ax (b0 aN)),(6,ax (oH (q:=decide (n≤99)) aN))] _ _ hk
  exact aO [(2,ax (b0 aN)),(6,ax (oI (q:=decide (n≤99)) aN))] _ _ hk
 cases hm;exact A.ret bG
def QG{t:bR}{r:Int}(hm:Ah t=some r):dn prog 78 [] [.agg (gL t)] (U r):=by
 refine dE func78 rfl rfl ?_;unfold Ah at hm;refine aO [(0,.al 18)] [(1,.ptr 18 0)] [(18,.cells 36 (gL t))] ?_;obtain⟨aJ,h1,hm⟩:=aU hm;refine aH [(2,bI (J8 h1) Ic)] [] [(3,.bool aJ)]<|A.seq<|aH [(2,ax (cb bH t.Links))] [] [(23,av bH t.Links),(24,U t.Links.length),(25,U 0)]<|A.block<|axt 23 rfl λdX=>?_
 obtain⟨eT,eU,eW,eO,hm⟩:=fF hm;refine axq (l:=t.Links) (e3:=0) (B:=eT) (K:=eU) hm (λau=>λxY=>[(1,.ptr 18 0),(3,.bool xY),(23,av bH t.Links),(24,U t.Links.length),(25,U au)]) (λau=>λxY=>[(18,.cells 36 (gL t))]) ?_ ?_ ?_
 ·exact fm
 ·rintro au e1 b3 xY eX bF hm;rw[eW]at hm;refine aH [] [] [(26,.d ((au:Int)<t.Links.length))]<|A.seq<|bz (fC bF)<|A.skip<|A.seq<|A.block<|c0 [(0,b7 (ix bH (eM bF))),(2,.al 206)] [26] [(5,.ptr 206 0)] [] [(206,.cells 84 (i3 e1))] ?_
  rcases bL hm with⟨aN,hm⟩|⟨aN,hm⟩
  ·obtain⟨bq,D,hm⟩:=aU hm;rcases bL hm with⟨bw,hm⟩|⟨bw,hm⟩
   ·obtain⟨cu,aj,hm⟩:=aU hm;exact hr [(1,ax (b0 aN)),(4,bI (J8 D) Ic),(6,ax (b0 bw)),(9,bI (J8 aj) Ic)] [3,5] [(3,.bool cu)] [206] []<|cB [(0,ax (fk bF dX))] [25] [(25,U ((au+1:Nat):Int))]<|ck cu hm
   exact hr [(1,ax (b0 aN)),(4,bI (J8 D) Ic),(6,ax (b0 bw))] [3,5] [(3,.bool false)] [206] []<|cB [(0,ax (fk bF dX))] [25] [(25,U ((au+1:Nat):Int))]<|ck false hm
  exact hr [(1,ax (b0 aN))] [3,5] [(3,.bool false)] [206] []<|cB [(0,ax (fk bF dX))] [25] [(25,U ((au+1:Nat):Int))]<|ck false hm
 rintro au xY eX er hm;rw[eO]at hm;refine aH [] [] [(26,.d ((au:Int)<t.Links.length))]<|A.seq<|bx (fB er)<|A.exit<|A.seq<|aH [] [3,23,24,25,26] [(42,.bool (!xY))] ?_
 rcases bL hm with⟨cg,hm⟩|⟨cg,hm⟩
 ·refine bz cg<|aO [] [(2,U 2)] [] ?_
  cases hm;exact A.ret bG
 refine bx cg<|A.skip<|A.seq<|aH [] [42] [(6,U 1)]<|A.block<|axO 1 1 rfl rfl rfl λgr=>?_
 obtain⟨jQ,iH,jZ,j0,hm⟩:=fF hm;refine axq (l:=t.Links) (e3:=1) (B:=jQ) (K:=iH) hm (λbN=>λ()=>[(1,.ptr 18 0),(6,U bN)]) (λbN=>λ()=>[(18,.cells 36 (gL t))]) ?_ ?_ ?_
 ·exact fm
 ·rintro bN e2 gX ⟨⟩ h6 eu hm;rw[jZ]at hm;refine A.seq<|aH [(3,ax (cb bH t.Links))] [] [(47,.d ((bN:Int)<t.Links.length))] ?_
  refine bz (fC eu)<|A.skip<|A.seq<|A.block ?_
  obtain⟨cr,aV,hm⟩:=aU hm;refine c0 [(4,b7 (ix bH aV)),(9,b7 (ix bH (eM eu))),(11,.al 207),(12,.al 208)] [47] [(7,.ptr 207 0),(8,.ptr 208 0)] [] [(207,.cells 84 (i3 cr)),(208,.cells 84 (i3 e2))]<|axy [(1,.ptr 18 0),(6,U bN),(79,.bool ((decide (e2.bh<cr.bh))||((decide (cr.bh=e2.bh))&&(decide (e2.aS≤cr.aS)))))] [(18,.cells 36 (gL t))] (λhk=>?_) ?_
  ·rcases kF (decide (e2.bh<cr.bh))with dR|dR
   ·exact aO [(5,ax (b0 dR)),(18,ax (wA (q:=((decide (cr.bh=e2.bh))&&(decide (e2.aS≤cr.aS)))) dR))] _ _ hk
   rcases kF (decide (cr.bh=e2.bh))with eV|eV
   ·exact aO [(5,ax (b0 dR)),(11,ax (b0 eV)),(18,ax ((oH (q:=decide (e2.aS≤cr.aS)) eV).trans (tV (q:=((decide (cr.bh=e2.bh))&&(decide (e2.aS≤cr.aS)))) dR)))] _ _ hk
   exact aO [(5,ax (b0 dR)),(11,ax (b0 eV)),(18,ax ((oI (q:=decide (e2.aS≤cr.aS)) eV).trans (tV (q:=((decide (cr.bh=e2.bh))&&(decide (e2.aS≤cr.aS)))) dR)))] _ _ hk
  rcases bL hm with⟨gY,hm⟩|⟨gY,hm⟩
  ·refine bz gY<|aO [] [(2,U 25)] [] ?_
   cases hm;exact A.ret bG
  exact bx gY<|A.skip<|cB [(1,ax (fk eu gr))] [6,79] [(6,U ((bN+1:Nat):Int))]<|ck () hm
 rintro bN ⟨⟩ h6 iR hm;rw[j0]at hm;refine A.seq<|aH [(3,ax (cb bH t.Links))] [] [(47,.d ((bN:Int)<t.Links.length))] ?_
 refine bx (fB iR)<|A.exit<|A.seq<|aH [(2,ax (cb bH t.Links))] [6,47] [(81,av bH t.Links),(82,U t.Links.length),(83,U 0)]<|A.block<|axt 81 rfl λnJ=>?_
 obtain⟨nv,nw,nH,nI,hm⟩:=fF hm;refine axq (l:=t.Links) (e3:=0) (B:=nv) (K:=nw) hm (λdd=>λ()=>[(1,.ptr 18 0),(81,av bH t.Links),(82,U t.Links.length),(83,U dd)]) (λdd=>λ()=>[(18,.cells 36 (gL t))]) ?_ ?_ ?_
 ·exact fm
 ·rintro dd bT jc ⟨⟩ ml h7 hm;rw[nH]at hm;refine aH [] [] [(84,.d ((dd:Int)<t.Links.length))]<|A.seq<|bz (fC h7)<|A.skip<|A.seq<|A.block<|c0 [(1,b7 (ix bH (eM h7))),(3,.al 72)] [84] [(10,.ptr 72 0),(9,U dd)] [] [(72,.cells 84 (i3 bT))]<|A.seq ?_
  obtain⟨dk,b4,hm⟩:=aU hm;refine aH [(3,j4 (sl bH b4)),(4,ax (cb bH dk))] [9] [(91,av bH dk),(92,U dk.length),(93,U 0)]<|A.block<|axt 91 rfl λw5=>?_
  obtain⟨wO,wP,w3,w4,hm⟩:=fF hm;refine axq (l:=dk) (e3:=0) (B:=wO) (K:=wP) hm (λhN=>λ()=>[(1,.ptr 18 0),(10,.ptr 72 0),(81,av bH t.Links),(82,U t.Links.length),(83,U dd),(91,av bH dk),(92,U dk.length),(93,U hN)]) (λhN=>λ()=>[(18,.cells 36 (gL t)),(72,.cells 84 (i3 bT))]) ?_ ?_ ?_
  ·exact fm
  ·rintro hN fG mb ⟨⟩ w8 lC hm;rw[w3]at hm;refine aH [] [] [(94,.d ((hN:Int)<dk.length))]<|A.seq<|bz (fC lC)<|A.skip<|A.seq<|A.block<|c0 [(0,b7 (ix bH (eM lC))),(2,.al 209)] [94] [(12,.ptr 209 0)] [] [(209,.cells 84 (i3 fG))]<|c0 [] [12] [(101,.d (fG.aS=bT.aS))] [209] [] ?_
   rcases bL hm with⟨i1,hm⟩|⟨i1,hm⟩
   ·refine bz i1<|aO [] [(2,U 8)] [] ?_
    cases hm;exact A.ret bG
   exact bx i1<|A.skip<|cB [(0,ax (fk lC w5))] [93,101] [(93,U ((hN+1:Nat):Int))]<|ck () hm
  rintro hN ⟨⟩ w8 qz hm;rw[w4]at hm;refine aH [] [] [(94,.d ((hN:Int)<dk.length))]<|A.seq<|bx (fB qz)<|A.exit<|c0 [] [10,91,92,93,94] [(107,.d (bT.aS=t.cc))] [72] [] ?_
  rcases bL hm with⟨me,hm⟩|⟨me,hm⟩
  ·refine bz me<|aO [] [(2,U 8)] [] ?_
   cases hm;exact A.ret bG
  exact bx me<|A.skip<|cB [(0,ax (fk h7 nJ))] [83,107] [(83,U ((dd+1:Nat):Int))]<|ck () hm
 rintro dd ⟨⟩ ml jO hm;rw[nI]at hm;refine aH [] [] [(84,.d ((dd:Int)<t.Links.length))]<|A.seq<|bx (fB jO)<|A.exit<|c0 [(2,.al 133)] [81,82,83,84] [(13,.own 133)] [] [(133,.slice 3 1 (aM az ([t.cc]:cN)) 0 false)]<|A.seq<|aH [] [] [(14,.bool true)]<|A.block ?_
 obtain⟨Eb,ZA,Fj,hm⟩:=n1 hm;refine axJ (F:=Eb) hm (λ(A2,sH)=>[(1,.ptr 18 0),(13,.own 30),(14,.bool sH)]) (λ(A2,sH)=>[(18,.cells 36 (gL t)),(30,.slice 3 1 (aM az A2) 0 false)]) ?_ ?_
 ·exact gM [.ja 133 30] []
 rintro pq ⟨A2,sH⟩ hm;rw[Fj]at hm;refine A.seq<|aH [] [] [(112,.bool sH)] ?_
 rcases bL hm with⟨qt,hm⟩|⟨qt,hm⟩
 ·refine bz qt<|A.skip<|A.block<|aH [] [14,112] [(14,.bool false)]<|aH [(2,ax (cb bH t.Links))] [] [(114,av bH t.Links),(115,U t.Links.length),(116,U 0)]<|A.block<|axt 114 rfl λFu=>?_
  obtain⟨zO,zR,Ar,As,hm⟩:=fF hm;refine axq (l:=t.Links) (e3:=0) (B:=zO) (K:=zR) hm (λhO=>λ(ri,nC)=>[(1,.ptr 18 0),(13,.own 30),(14,.bool nC),(114,av bH t.Links),(115,U t.Links.length),(116,U hO)]) (λhO=>λ(ri,nC)=>[(18,.cells 36 (gL t)),(30,.slice 3 1 (aM az ri) 0 false)]) ?_ ?_ ?_
  ·exact fm
  ·rintro hO g1 p2 ⟨ri,nC⟩ AD rJ hm;rw[Ar]at hm;refine aH [] [] [(117,.d ((hO:Int)<t.Links.length))]<|A.seq<|bz (fC rJ)<|A.skip ?_
   obtain⟨dx,iu,hm⟩:=h2 hm;refine A.J (J:=dx) (r:=r) (λ(Dj,oV)=>[(1,.ptr 18 0),(13,.own 30),(14,.bool oV),(114,av bH t.Links),(115,U t.Links.length),(116,U hO)]) (λ(Dj,oV)=>[(18,.cells 36 (gL t)),(30,.slice 3 1 (aM az Dj) 0 false)]) ?_ ?_
   ·refine A.block<|c0 [(0,b7 (ix bH (eM rJ))),(2,.al 104)] [117] [(16,.ptr 104 0)] [] [(104,.cells 84 (i3 g1))] ?_
    obtain⟨gv,k4,hm⟩:=h2 hm;refine A.J (J:=gv) (r:=r) (λeL=>[(1,.ptr 18 0),(13,.own 30),(14,.bool nC),(16,.ptr 104 0),(114,av bH t.Links),(115,U t.Links.length),(116,U hO),(130,.bool eL)]) (λeL=>[(18,.cells 36 (gL t)),(30,.slice 3 1 (aM az ri) 0 false),(104,.cells 84 (i3 g1))]) ?_ ?_
    ·obtain⟨eg,dz,hm⟩:=aU hm;rcases bL hm with⟨qs,hm⟩|⟨qs,hm⟩
     ·obtain⟨dQ,fz,hm⟩:=aU hm;exact cB [(3,hle [30] (vw dz) wM),(4,ax (b0 qs)),(8,hle [30] (vw fz) wM)] [] [(130,.bool (!dQ))]<|ck (!dQ) hm
     exact cB [(3,hle [30] (vw dz) wM),(4,ax (b0 qs))] [] [(130,.bool false)]<|ck false hm
    rintro eL hm;rw[k4]at hm;rcases bL hm with⟨uq,hm⟩|⟨uq,hm⟩
    ·refine bz uq ?_;obtain⟨iD,hv,hm⟩:=aU hm;exact hr [(4,m4 167 (ap az (bytes:=8) (by decide) hv))] [13,14,16,130] [(13,.own 167),(14,.bool true)] [30,104] [(167,.slice 3 1 (aM az iD) 0 false)]<|Exists.intro (iD,true) (And.intro hm (gM [.ja 167 30] []))
    exact bx uq<|A.skip<|ck (ri,nC) hm
   rintro⟨Dj,oV⟩ hm;rw[iu]at hm;exact cB [(0,ax (fk rJ Fu))] [116] [(116,U ((hO+1:Nat):Int))]<|ck (Dj,oV) hm
  rintro hO ⟨ri,nC⟩ AD vK hm;rw[As]at hm;exact aH [] [] [(117,.d ((hO:Int)<t.Links.length))]<|A.seq<|bx (fB vK)<|A.exit<|ck (ri,nC) hm
 refine bx qt<|A.exit<|A.seq<|c0 [(2,ax (cb bH t.Links))] [1,14,112] [(138,av bH t.Links),(139,U t.Links.length),(140,U 0)] [18] []<|A.block<|axt 138 rfl λPk=>?_
 obtain⟨LY,L1,O3,Pb,hm⟩:=fF hm;refine axq (l:=t.Links) (e3:=0) (B:=LY) (K:=L1) hm (λl0=>λ()=>[(13,.own 30),(138,av bH t.Links),(139,U t.Links.length),(140,U l0)]) (λl0=>λ()=>[(30,.slice 3 1 (aM az A2) 0 false)]) ?_ ?_ ?_
 ·exact fm
 ·rintro l0 jN BV ⟨⟩ PA vR hm;rw[O3]at hm;refine aH [] [] [(141,.d ((l0:Int)<t.Links.length))]<|A.seq<|bz (fC vR)<|A.skip<|A.seq<|A.block<|c0 [(0,b7 (ix bH (eM vR))),(2,.al 210)] [141] [(18,.ptr 210 0)] [] [(210,.cells 84 (i3 jN))] ?_
  obtain⟨dF,hc,hm⟩:=aU hm;refine c0 [(3,hle [30] (vw hc) wM)] [18] [(148,.bool (!dF))] [210] [] ?_;rcases bL hm with⟨ur,hm⟩|⟨ur,hm⟩
  ·refine bz ur<|aO [] [(2,U 10)] [] ?_
   cases hm;exact A.ret bG
  exact bx ur<|A.skip<|cB [(0,ax (fk vR Pk))] [140,148] [(140,U ((l0+1:Nat):Int))]<|ck () hm
 rintro l0 ⟨⟩ PA PF hm;rw[Pb]at hm;refine aH [] [] [(141,.d ((l0:Int)<t.Links.length))]<|A.seq<|bx (fB PF)<|A.exit<|aO [] [(2,U 0)] [] ?_
 cases hm;exact A.ret bG
def as2{t:bR}{r:(cN)}(hm:Gj t=some r):dn prog 82 [] [.agg (gL t)] (av az r):=by
 refine dE func82 rfl rfl ?_;unfold Gj at hm;refine aO [(0,.al 116)] [(1,.ptr 116 0)] [(116,.cells 36 (gL t))]<|A.seq ?_
 obtain⟨aJ,h1,hm⟩:=aU hm;refine aH [(1,bI (QG h1) Ob)] [] [(8,.bool (!decide (aJ=0)))] ?_;rcases bL hm with⟨aN,hm⟩|⟨aN,hm⟩
 ·refine bz aN<|aO [] [(2,.dh)] [] ?_
  cases hm;exact A.ret bG
 refine bx aN<|A.skip<|aH [] [8] [(3,.bf true (aM az ([t.cc]:cN)))]<|A.seq<|c0 [(2,ax (cb bH t.Links))] [1] [(13,av bH t.Links),(14,U t.Links.length),(15,U 0)] [116] []<|A.block<|axt 13 rfl λdX=>?_
 obtain⟨eT,eU,eW,eO,hm⟩:=fF hm;refine axq (l:=t.Links) (e3:=0) (B:=eT) (K:=eU) hm (λau=>λee=>[(3,av az ee),(13,av bH t.Links),(14,U t.Links.length),(15,U au)]) (λau=>λee=>[]) ?_ ?_ ?_
 ·exact gM [] [3]
 ·rintro au e1 b3 ee eX bF hm;rw[eW]at hm;refine aH [] [] [(16,.d ((au:Int)<t.Links.length))]<|A.seq<|bz (fC bF)<|A.skip<|A.seq<|A.block<|c0 [(0,b7 (ix bH (eM bF))),(2,.al 212)] [16] [(5,.ptr 212 0)] [] [(212,.cells 84 (i3 e1))] ?_
  obtain⟨bq,D,hm⟩:=aU hm;exact hr [(3,bI (JL D) IC)] [3,5] [(3,av az bq)] [212] []<|cB [(0,ax (fk bF dX))] [15] [(15,U ((au+1:Nat):Int))]<|Exists.intro bq (And.intro hm (gM [] [3]))
 rintro au ee eX er hm;rw[eO]at hm;refine aH [] [] [(16,.d ((au:Int)<t.Links.length))]<|A.seq<|bx (fB er)<|A.exit<|aO [] [(2,av az ee)] [] ?_
 cases hm;exact A.ret bG
def ZJ{l:cN}{r:Bool}(hm:CJ l=some r):dn prog 81 [] [av az l] (.bool r):=by
 refine dE func81 rfl rfl ?_;unfold CJ at hm;refine aO [] [(0,av az l)] []<|A.seq<|aH [] [] [(3,U 1)]<|A.block<|axt 0 rfl λdX=>?_
 obtain⟨eT,eU,eW,eO,hm⟩:=fF hm;refine axq (l:=l) (e3:=1) (B:=eT) (K:=eU) hm (λau=>λ()=>[(0,av az l),(3,U au)]) (λau=>λ()=>[]) ?_ ?_ ?_
 ·exact fm
 ·rintro au e1 b3 ⟨⟩ eX bF hm;rw[eW]at hm;refine A.seq<|aH [(2,ax (cb az l))] [] [(7,.d ((au:Int)<l.length))] ?_
  refine bz (fC bF)<|A.skip<|A.seq<|A.block ?_
  obtain⟨cr,h1,hm⟩:=aU hm;refine aH [(3,b7 (ix az h1)),(7,b7 (ix az (eM bF)))] [7] [(19,.d (e1≤cr))] ?_;rcases bL hm with⟨aN,hm⟩|⟨aN,hm⟩
  ·refine bz aN<|aO [] [(2,.bool false)] [] ?_
   cases hm;exact A.ret bG
  exact bx aN<|A.skip<|cB [(1,ax (fk bF dX))] [3,19] [(3,U ((au+1:Nat):Int))]<|ck () hm
 rintro au ⟨⟩ eX er hm;rw[eO]at hm;refine A.seq<|aH [(2,ax (cb az l))] [] [(7,.d ((au:Int)<l.length))] ?_
 refine bx (fB er)<|A.exit<|aO [] [(2,.bool true)] [] ?_
 cases hm;exact A.ret bG
end
section
open Go Go.Proofs.Tryz List
set_option maxRecDepth 100000
set_option linter.all false
def atG{t:eo}{mw:Int}{r:bu×eo}(hm:Gs t mw=some r):gZ prog 13 [(1,.cells 103 (hp t))] [.ptr 1 0,U mw] (λa aL=>a=.agg [av fN r.1.cn,.own 166]∧aL=[(1,.cells 103 (hp r.2)),(166,.slice 62 5 (aM ff r.1.Links) 0 false)]):=by
 refine dE func13 rfl rfl ?_;unfold Gs at hm;refine aO [(0,.al 12)] [(0,.ptr 1 0),(1,U mw),(4,.ptr 12 0)] [(1,.cells 103 (hp t)),(12,.c 28 [.dh,.dh])] ?_;obtain⟨aJ,h1,hm⟩:=aU hm;refine c0 [(2,gW [] (Qj h1) N6)] [1] [(5,U aJ.1)] [1] [(1,.cells 103 (hp aJ.2))]<|c0 [(0,.al 15)] [] [(6,.ptr 15 0)] [] [(15,.c 28 [.dh,.dh])]<|aH [] [] [(7,U 0)]<|A.seq<|aH [] [] [(8,U 0)]<|A.block ?_
 obtain⟨Pw,hm⟩:=mD hm;obtain⟨eT,eU,eW,eO,hm⟩:=yP hm;refine axY (hi:=aJ.1) (B:=eT) (K:=eU) hm rfl (λau=>λ(wN,bJ,c6,et)=>[(0,.ptr 1 0),(4,.ptr 12 0),(5,U aJ.1),(6,.ptr 15 0),(7,U wN),(8,U au)]) (λau=>λ(wN,bJ,c6,et)=>[(1,.c 103 [av az c6,U et]),(12,.c 28 [.dh,.dh]),(15,.c 28 [.own 17,.dh]),(17,.slice 31 2 (aM fN bJ) 0 false)]) ?_ ?_ ?_
 ·exact gM [.ac 15 17 31 2 0] []
 ·rintro au b3 ⟨wN,bJ,c6,et⟩ eX bF hm;rw[eW]at hm;refine A.seq<|aH [] [] [(24,.d ((au:Int)<aJ.1))] ?_
  refine axD rfl (decide_eq_true bF)<|A.skip<|A.seq<|A.block ?_
  obtain⟨bq,D,hm⟩:=aU hm;refine c0 [(3,gW [] (yb D) zM)] [7,24] [(7,U (bE (wN+bq.1)))] [1] [(1,.cells 103 (hp bq.2))] ?_;obtain⟨dk,aj,hm⟩:=aU hm;exact hr [(5,m4 121 (ap fN (bytes:=16) (by decide) aj))] [] [] [15,17] [(15,.c 28 [.own 121,.dh]),(121,.slice 31 2 (aM fN dk) 0 false)]<|cB [(1,ax (zy (by omega) bF (of_decide_eq_true Pw)))] [8] [(8,U (au+1:Int))]<|Exists.intro (bE (wN+bq.1),dk,bq.2.L,bq.2.At) (And.intro hm (gM [.ja 121 17] []))
 rintro au ⟨wN,bJ,c6,et⟩ eX er hm;rw[eO]at hm;refine A.seq<|aH [] [] [(24,.d ((au:Int)<aJ.1))] ?_
 refine axA rfl (yl er)<|A.exit ?_
 obtain⟨aV,hm⟩:=mD hm;refine c0 [(1,PK 13040 aJ.1 U1 U2 aV (by decide))] [7,8,24] [(9,.own 13040)] [] [(13040,.slice 106 1 (List.replicate aJ.1.toNat [.dh]) 0 false)]<|axB ((ayl (d:=13040) (e:=450013040) 4 1 iK.enc (NS aV) rfl rfl rfl rfl rfl))<|A.seq<|aO [(1,pK 4 1 iK.enc (List.replicate aJ.1.toNat []:lq) zk)] [(0,.ptr 1 0),(4,.ptr 12 0),(5,U aJ.1),(6,.ptr 15 0),(9,.own 13040),(42,U ((List.replicate aJ.1.toNat []:lq).length:Int)),(43,U 0)] [(1,.c 103 [av az c6,U et]),(12,.c 28 [.dh,.dh]),(15,.c 28 [.own 17,.dh]),(17,.slice 31 2 (aM fN bJ) 0 false),(13040,.e5 106 450013040 aJ.1.toNat none),(450013040,.cO (encS 4 1 iK.enc (List.replicate aJ.1.toNat []:lq)))]<|A.block ?_
 obtain⟨Fv,hm⟩:=mD hm;obtain⟨jQ,iH,jZ,j0,hm⟩:=yP hm;refine axY (hi:=((List.replicate aJ.1.toNat []:lq).length:Int)) (B:=jQ) (K:=iH) hm rfl (λbN=>λj5=>[(0,.ptr 1 0),(4,.ptr 12 0),(5,U aJ.1),(6,.ptr 15 0),(9,.own 13040),(42,U ((List.replicate aJ.1.toNat []:lq).length:Int)),(43,U bN)]) (λbN=>λj5=>[(1,.c 103 [av az c6,U et]),(12,.c 28 [.dh,.dh]),(15,.c 28 [.own 17,.dh]),(17,.slice 31 2 (aM fN bJ) 0 false),(13040,.e5 106 450013040 aJ.1.toNat none),(450013040,.cO (encS 4 1 iK.enc j5))]) ?_ ?_ ?_
 ·exact fm
 ·rintro bN gX j5 h6 eu hm;rw[jZ]at hm;refine aH [] [] [(44,.d ((bN:Int)<((List.replicate aJ.1.toNat []:lq).length:Int)))]<|A.seq<|axD rfl (decide_eq_true eu)<|A.skip<|A.seq<|A.block<|aH [] [44] [(10,U bN)] ?_
  obtain⟨b4,hm⟩:=mD hm;obtain⟨cr,dz,hm⟩:=aU hm;exact hr [(3,yC (a:=.bool false) 13049 false iK.enc aJ.1 U3 U4 rfl (λI=>by simp[bk]) b4 (by decide)),(4,lW 4 1 iK.enc zk dz),(5,PT 4 1 126 iK.enc (List.replicate (aJ.1).toNat false) Eu dz)] [10] [] [13040,450013040] [(13040,.e5 106 126 aJ.1.toNat none),(126,.cO (encS 4 1 iK.enc (List.set j5 (bN:Int).toNat (List.replicate (aJ.1).toNat false))))]<|cB [(0,ax (zy (by omega) eu (of_decide_eq_true Fv)))] [43] [(43,U (bN+1:Int))]<|Exists.intro (List.set j5 (bN:Int).toNat (List.replicate (aJ.1).toNat false)) (And.intro hm (gM [.rn 126 450013040] []))
 rintro bN j5 h6 iR hm;rw[j0]at hm;refine aH [] [] [(44,.d ((bN:Int)<((List.replicate aJ.1.toNat []:lq).length:Int)))]<|A.seq<|axA rfl (yl iR)<|A.exit<|A.seq<|aH [] [42,43,44] [(11,U 1)]<|A.block ?_
 obtain⟨aov,hm⟩:=mD hm;obtain⟨nv,nw,nH,nI,hm⟩:=yP hm;refine axY (hi:=aJ.1) (B:=nv) (K:=nw) hm rfl (λdd=>λ(nr,qg,jK)=>[(0,.ptr 1 0),(4,.ptr 12 0),(5,U aJ.1),(6,.ptr 15 0),(9,.own 13040),(11,U dd)]) (λdd=>λ(nr,qg,jK)=>[(1,.c 103 [av az nr,U qg]),(12,.c 28 [.dh,.dh]),(15,.c 28 [.own 17,.dh]),(17,.slice 31 2 (aM fN bJ) 0 false),(13040,.e5 106 450013040 aJ.1.toNat none),(450013040,.cO (encS 4 1 iK.enc jK))]) ?_ ?_ ?_
 ·exact fm
 ·rintro dd jc ⟨nr,qg,jK⟩ ml h7 hm;rw[nH]at hm;refine A.seq<|aH [] [] [(54,.d ((dd:Int)<aJ.1))] ?_
  refine axD rfl (decide_eq_true h7)<|A.skip ?_
  obtain⟨dx,iu,hm⟩:=h2 hm;refine A.J (J:=dx) (r:=r) (λ(rO,qh,kA)=>[(0,.ptr 1 0),(4,.ptr 12 0),(5,U aJ.1),(6,.ptr 15 0),(9,.own 13040),(11,U dd)]) (λ(rO,qh,kA)=>[(1,.c 103 [av az qh,U kA]),(12,.c 28 [.dh,.dh]),(15,.c 28 [.own 17,.dh]),(17,.slice 31 2 (aM fN bJ) 0 false),(13040,.e5 106 450013040 aJ.1.toNat none),(450013040,.cO (encS 4 1 iK.enc rO))]) ?_ ?_
  ·refine A.block ?_;obtain⟨cu,fz,hm⟩:=aU hm;refine c0 [(1,gW [] (q5 fz) rW)] [54] [(59,.d (cu.1<11))] [1] [(1,.cells 103 (hp cu.2))] ?_;rcases bL hm with⟨aN,hm⟩|⟨aN,hm⟩
   ·refine bz aN ?_;obtain⟨eg,hv,hm⟩:=aU hm;obtain⟨e6,hc,hm⟩:=aU hm;obtain⟨ir,kC,hm⟩:=aU hm;obtain⟨iD,m0,hm⟩:=aU hm;refine axU (A.R cQ [] [(3,gW [] (q5 hv) rW),(4,lW 4 1 iK.enc zk hc),(5,Fz 4 1 530013003 530013002 iK.enc Eu hc),(7,b7 (ix iK kC)),(8,tF 530013002 (fM iK (off:=0) (ca:=[.bool true]) kC m0 rfl) (v7 kC).1.1)] [(0,.ptr 1 0),(4,.ptr 12 0),(5,U aJ.1),(6,.ptr 15 0),(9,.own 13040),(11,U dd)] [(1,.cells 103 (hp eg.2)),(12,.c 28 [.dh,.dh]),(15,.c 28 [.own 17,.dh]),(17,.slice 31 2 (aM fN bJ) 0 false),(13040,.e5 106 530013003 aJ.1.toNat (some (some eg.1.toNat,530013002))),(530013003,.cO (encS 4 1 iK.enc (List.set jK eg.1.toNat []))),(530013002,.slice 4 1 (aM iK iD) 0 false)] (by kernel_rfl) ?_);refine⟨_,_,(ax5 (d:=13040) (e:=530013003) (e2:=530013004) (t:=530013002) jK iK.enc iD rfl rfl rfl rfl rfl rfl rfl),?_⟩;exact Exists.intro ((List.set jK eg.1.toNat iD),eg.2.L,eg.2.At) (And.intro hm (gM [.rn 530013004 450013040] []))
   exact bx aN<|A.skip<|ck (jK,cu.2.L,cu.2.At) hm
  rintro⟨rO,qh,kA⟩ hm;rw[iu]at hm;exact cB [(1,ax (zy (by omega) h7 (of_decide_eq_true aov)))] [11] [(11,U (dd+1:Int))]<|ck (qh,kA,rO) hm
 rintro dd ⟨nr,qg,jK⟩ ml jO hm;rw[nI]at hm;refine A.seq<|aH [] [] [(54,.d ((dd:Int)<aJ.1))] ?_
 refine axA rfl (yl jO)<|A.exit<|A.seq ?_
 obtain⟨dQ,th,hm⟩:=aU hm;refine c0 [(3,gW [] (q5 th) rW)] [11,54] [(12,U dQ.1)] [1] [(1,.cells 103 (hp dQ.2))]<|A.block ?_
 obtain⟨LZ,aqa,O6,hm⟩:=n1 hm;refine axJ (F:=LZ) hm (λ(cI,sW,B7,iM)=>[(0,.ptr 1 0),(4,.ptr 12 0),(5,U aJ.1),(6,.ptr 15 0),(9,.own 13040),(12,U cI)]) (λ(cI,sW,B7,iM)=>[(1,.c 103 [av az sW,U B7]),(12,.c 28 [.dh,.dh]),(15,.c 28 [.own 17,.dh]),(17,.slice 31 2 (aM fN bJ) 0 false),(13040,.e5 106 450013040 aJ.1.toNat none),(450013040,.cO (encS 4 1 iK.enc iM))]) ?_ ?_
 ·exact fm
 rintro mb ⟨cI,sW,B7,iM⟩ hm;rw[O6]at hm;refine A.seq<|aH [] [] [(73,.d (0<cI))] ?_
 rcases bL hm with⟨bw,hm⟩|⟨bw,hm⟩
 ·refine bz bw<|A.skip ?_
  obtain⟨gv,k4,hm⟩:=h2 hm;refine A.J (J:=gv) (r:=r) (λ(B8,B9,Ca)=>[(0,.ptr 1 0),(4,.ptr 12 0),(5,U aJ.1),(6,.ptr 15 0),(9,.own 13040),(12,U cI)]) (λ(B8,B9,Ca)=>[(1,.c 103 [av az B9,U Ca]),(12,.c 28 [.dh,.dh]),(15,.c 28 [.own 17,.dh]),(17,.slice 31 2 (aM fN bJ) 0 false),(13040,.e5 106 450013040 aJ.1.toNat none),(450013040,.cO (encS 4 1 iK.enc B8))]) ?_ ?_
  ·refine A.block ?_;obtain⟨dF,ry,hm⟩:=aU hm;obtain⟨gU,uz,hm⟩:=aU hm;refine c0 [(2,gW [] (q5 ry) rW),(5,gW [] (q5 uz) rW)] [73] [(13,U dF.1),(14,U gU.1)] [1] [(1,.cells 103 (hp gU.2))]<|aH [] [] [(84,.bool (!decide (dF.1=gU.1)))] ?_
   rcases bL hm with⟨cg,hm⟩|⟨cg,hm⟩
   ·refine bz cg ?_;obtain⟨lR,uA,hm⟩:=aU hm;obtain⟨j9,uB,hm⟩:=aU hm;obtain⟨kL,ti,hm⟩:=aU hm;refine axU (A.R cQ [] [(4,lW 4 1 iK.enc zk uA),(5,Fz 4 1 530013006 530013005 iK.enc Eu uA),(9,b7 (ix iK uB)),(10,tF 530013005 (fM iK (off:=0) (ca:=[.bool true]) uB ti rfl) (v7 uB).1.1)] [(0,.ptr 1 0),(4,.ptr 12 0),(5,U aJ.1),(6,.ptr 15 0),(9,.own 13040),(12,U cI)] [(1,.cells 103 (hp gU.2)),(12,.c 28 [.dh,.dh]),(15,.c 28 [.own 17,.dh]),(17,.slice 31 2 (aM fN bJ) 0 false),(13040,.e5 106 530013006 aJ.1.toNat (some (some (if gU.1<dF.1 then gU.1 else dF.1).toNat,530013005))),(530013006,.cO (encS 4 1 iK.enc (List.set iM (if gU.1<dF.1 then gU.1 else dF.1).toNat []))),(530013005,.slice 4 1 (aM iK kL) 0 false)] (by kernel_rfl) ?_);refine⟨_,_,(ax5 (d:=13040) (e:=530013006) (e2:=530013007) (t:=530013005) iM iK.enc kL rfl rfl rfl rfl rfl rfl rfl),?_⟩;exact Exists.intro ((List.set iM (if gU.1<dF.1 then gU.1 else dF.1).toNat kL),gU.2.L,gU.2.At) (And.intro hm (gM [.rn 530013007 450013040] []))
   exact bx cg<|A.skip<|ck (iM,gU.2.L,gU.2.At) hm
  rintro⟨B8,B9,Ca⟩ hm;rw[k4]at hm;exact cB [] [12] [(12,U (bE (cI-1)))]<|ck (bE (cI-1),B9,Ca,B8) hm
 refine bx bw<|A.exit ?_
 obtain⟨mq,Cq,hm⟩:=aU hm;refine c0 [(1,gW [] (q5 Cq) rW)] [5,12,73] [(15,.d (mq.1=0))] [1] [(1,.cells 103 (hp mq.2))]<|A.seq<|aH [(1,pK 4 1 iK.enc iM zk)] [] [(99,U iM.length),(100,U 0)]<|A.block ?_
 obtain⟨aow,hm⟩:=mD hm;obtain⟨q0,L0,O2,O9,hm⟩:=yP hm;refine axY (hi:=(iM.length:Int)) (B:=q0) (K:=L0) hm rfl (λjJ=>λ(xS,xT,xU)=>[(0,.ptr 1 0),(4,.ptr 12 0),(6,.ptr 15 0),(9,.own 13040),(15,.d (mq.1=0)),(99,U iM.length),(100,U jJ)]) (λjJ=>λ(xS,xT,xU)=>[(1,.c 103 [av az xT,U xU]),(12,.c 28 [.dh,.dh]),(15,.c 28 [.own 17,.own 35]),(17,.slice 31 2 (aM fN bJ) 0 false),(13040,.e5 106 450013040 aJ.1.toNat none),(450013040,.cO (encS 4 1 iK.enc iM)),(35,.slice 62 5 (aM ff xS) 0 false)]) ?_ ?_ ?_
 ·exact gM [.ac 15 35 62 5 1] []
 ·rintro jJ pq ⟨xS,xT,xU⟩ Pz AL hm;rw[O2]at hm;refine aH [] [] [(101,.d ((jJ:Int)<iM.length))]<|A.seq<|axD rfl (decide_eq_true AL)<|A.skip<|A.seq<|A.block<|aH [] [101] [(16,U jJ)]<|aH [(1,pK 4 1 iK.enc iM zk)] [] [(104,U iM.length),(105,U 0)]<|A.block ?_
  obtain⟨aox,hm⟩:=mD hm;obtain⟨zO,zR,Ar,As,hm⟩:=yP hm;refine axY (hi:=(iM.length:Int)) (B:=zO) (K:=zR) hm rfl (λhO=>λ(sX,vk,vl)=>[(0,.ptr 1 0),(4,.ptr 12 0),(6,.ptr 15 0),(9,.own 13040),(15,.d (mq.1=0)),(16,U jJ),(99,U iM.length),(100,U jJ),(104,U iM.length),(105,U hO)]) (λhO=>λ(sX,vk,vl)=>[(1,.c 103 [av az vk,U vl]),(12,.c 28 [.dh,.dh]),(15,.c 28 [.own 17,.own 35]),(17,.slice 31 2 (aM fN bJ) 0 false),(13040,.e5 106 450013040 aJ.1.toNat none),(450013040,.cO (encS 4 1 iK.enc iM)),(35,.slice 62 5 (aM ff sX) 0 false)]) ?_ ?_ ?_
  ·exact fm
  ·rintro hO p2 ⟨sX,vk,vl⟩ AD rJ hm;rw[Ar]at hm;refine aH [] [] [(106,.d ((hO:Int)<iM.length))]<|A.seq<|axD rfl (decide_eq_true rJ)<|A.skip ?_
   obtain⟨kP,pF,hm⟩:=h2 hm;refine A.J (J:=kP) (r:=r) (λ(Cb,Cc,BW)=>[(0,.ptr 1 0),(4,.ptr 12 0),(6,.ptr 15 0),(9,.own 13040),(15,.d (mq.1=0)),(16,U jJ),(99,U iM.length),(100,U jJ),(104,U iM.length),(105,U hO)]) (λ(Cb,Cc,BW)=>[(1,.c 103 [av az Cb,U Cc]),(12,.c 28 [.dh,.dh]),(15,.c 28 [.own 17,.own 35]),(17,.slice 31 2 (aM fN bJ) 0 false),(13040,.e5 106 450013040 aJ.1.toNat none),(450013040,.cO (encS 4 1 iK.enc iM)),(35,.slice 62 5 (aM ff BW) 0 false)]) ?_ ?_
   ·refine A.block<|aH [] [106] [(17,U hO)] ?_
    refine A.seq ?_;obtain⟨p4,uC,hm⟩:=aU hm;obtain⟨mj,qv,hm⟩:=aU hm;refine c0 [(2,lW 4 1 iK.enc zk uC),(3,Fz 4 1 530013009 530013008 iK.enc Eu uC),(5,b7 (ix iK qv)),(6,lX 530013008 0 (ix iK qv))] [] [(115,.bool (!mj))] [13040,450013040] [(13040,.e5 106 530013009 aJ.1.toNat (some (some (jJ:Int).toNat,530013008))),(530013009,.cO (encS 4 1 iK.enc (List.set iM (jJ:Int).toNat []))),(530013008,.slice 4 1 (aM iK p4) 0 false)]<|axB ((azy (d:=13040) (e:=530013009) (e2:=530013010) (t:=530013008) iM iK.enc uC rfl rfl rfl rfl rfl rfl rfl)) ?_
    rcases bL hm with⟨dR,hm⟩|⟨dR,hm⟩
    ·exact bz dR<|A.exit<|Exists.intro (vk,vl,sX) (And.intro hm (gM [.rn 530013010 450013040] []))
    refine bx dR<|A.skip ?_
    obtain⟨py,uD,hm⟩:=aU hm;obtain⟨pz,w1,hm⟩:=aU hm;obtain⟨ho,rz,hm⟩:=aU hm;refine aO [(3,b7 (ix fN uD)),(5,lX 17 0 (ix fN uD)),(9,b7 (ix fN w1)),(11,lX 17 0 (ix fN w1)),(14,gW [] (yb rz) zM),(16,.al 84)] [(0,.ptr 1 0),(4,.ptr 12 0),(6,.ptr 15 0),(9,.own 13040),(15,.d (mq.1=0)),(16,U jJ),(99,U iM.length),(100,U jJ),(104,U iM.length),(105,U hO),(18,.ptr 84 0)] [(1,.cells 103 (hp ho.2)),(12,.c 28 [.dh,.dh]),(15,.c 28 [.own 17,.own 35]),(17,.slice 31 2 (aM fN bJ) 0 false),(13040,.e5 106 530013010 aJ.1.toNat none),(530013010,.cO (encS 4 1 iK.enc iM)),(35,.slice 62 5 (aM ff sX) 0 false),(84,.c 62 [U py.eR,U pz.eR,U 1,U 1,U ho.1])] ?_;obtain⟨k0,sq,hm⟩:=h2 hm;refine A.J (J:=k0) (r:=r) (λ(BX,BY,EW,EX)=>[(0,.ptr 1 0),(4,.ptr 12 0),(6,.ptr 15 0),(9,.own 13040),(15,.d (mq.1=0)),(16,U jJ),(18,.ptr 84 0),(99,U iM.length),(100,U jJ),(104,U iM.length),(105,U hO)]) (λ(BX,BY,EW,EX)=>[(1,.c 103 [av az BX,U BY]),(12,.c 28 [.dh,.dh]),(15,.c 28 [.own 17,.own 35]),(17,.slice 31 2 (aM fN bJ) 0 false),(13040,.e5 106 530013010 aJ.1.toNat none),(530013010,.cO (encS 4 1 iK.enc iM)),(35,.slice 62 5 (aM ff sX) 0 false),(84,.c 62 [U py.eR,U pz.eR,U EW,U EX,U ho.1])]) ?_ ?_
    ·refine aH [] [] [(133,.bool (!(decide (mq.1=0))))] ?_;rcases bL hm with⟨eV,hm⟩|⟨eV,hm⟩
     ·refine bz eV ?_;obtain⟨BL,w2,hm⟩:=aU hm;obtain⟨jV,yp,hm⟩:=aU hm;refine c0 [(2,gW [] (Qj w2) N6),(4,gW [] (yb yp) zM)] [133] [] [1,84] [(1,.cells 103 (hp jV.2)),(84,.c 62 [U py.eR,U pz.eR,U jV.1,U 1,U ho.1])] ?_;obtain⟨xR,Cr,hm⟩:=aU hm;obtain⟨tW,Cs,hm⟩:=aU hm;exact hr [(6,gW [] (Qj Cr) N6),(8,gW [] (yb Cs) zM)] [] [] [1,84] [(1,.cells 103 (hp tW.2)),(84,.c 62 [U py.eR,U pz.eR,U jV.1,U tW.1,U ho.1])]<|ck (tW.2.L,tW.2.At,jV.1,tW.1) hm
     exact bx eV<|A.skip<|ck (ho.2.L,ho.2.At,(1:Int),(1:Int)) hm
    rintro⟨BX,BY,EW,EX⟩ hm;rw[sq]at hm;obtain⟨pW,Fh,hm⟩:=aU hm;exact hr [(4,m4 158 (ap ff (bytes:=40) (by decide) Fh))] [18] [] [15,35,84] [(15,.c 28 [.own 17,.own 158]),(158,.slice 62 5 (aM ff pW) 0 false)]<|Exists.intro (BX,BY,pW) (And.intro hm (gM [.ja 158 35,.rn 530013010 450013040] []))
   rintro⟨Cb,Cc,BW⟩ hm;rw[pF]at hm;exact cB [(0,ax (zy (by omega) rJ (of_decide_eq_true aox)))] [105] [(105,U (hO+1:Int))]<|ck (BW,Cb,Cc) hm
  rintro hO ⟨sX,vk,vl⟩ AD vK hm;rw[As]at hm;exact aH [] [] [(106,.d ((hO:Int)<iM.length))]<|A.seq<|axA rfl (yl vK)<|A.exit<|cB [(0,ax (zy (by omega) AL (of_decide_eq_true aow)))] [16,100,104,105,106] [(100,U (jJ+1:Int))]<|ck (sX,vk,vl) hm
 rintro jJ ⟨xS,xT,xU⟩ Pz PE hm;rw[O9]at hm;refine aH [] [] [(101,.d ((jJ:Int)<iM.length))]<|A.seq<|axA rfl (yl PE)<|A.exit<|axB (aym (d:=13040) (e:=450013040) iM iK.enc rfl rfl)<|aO [] [(4,.ptr 12 0)] [(1,.c 103 [av az xT,U xU]),(12,.c 28 [.own 17,.own 35]),(17,.slice 31 2 (aM fN bJ) 0 false),(35,.slice 62 5 (aM ff xS) 0 false)]<|A.ret ?_
 obtain rfl:=nU hm;exact axv cQ [.dO [17],.ja 35 166] rfl (by kernel_rfl)
def abS{t:eo}{p:bu}{n:Int}{r:(cN)×eo}(hm:GO t p n=some r):gZ prog 15 [(1,.cells 103 (hp t))] [.ptr 1 0,.agg (bV p),U n] (λa aL=>a=av az r.1∧aL=[(1,.cells 103 (hp r.2))]):=by
 refine dE func15 rfl rfl ?_;unfold GO at hm;refine aO [(0,.al 79)] [(0,.ptr 1 0),(2,U n),(4,.ptr 79 0)] [(1,.cells 103 (hp t)),(79,.cells 28 (bV p))]<|aH [] [] [(7,.dh)]<|A.seq ?_
 obtain⟨aJ,h1,hm⟩:=aU hm;refine c0 [(3,gW [] (q5 h1) rW)] [2] [(8,U aJ.1)] [1] [(1,.cells 103 (hp aJ.2))]<|A.block ?_
 obtain⟨lQ,iE,lT,hm⟩:=n1 hm;refine axJ (F:=lQ) hm (λ(ee,cI,bJ,c6)=>[(0,.ptr 1 0),(4,.ptr 79 0),(7,av az ee),(8,U cI)]) (λ(ee,cI,bJ,c6)=>[(1,.c 103 [av az bJ,U c6]),(79,.cells 28 (bV p))]) ?_ ?_
 ·exact gM [] [7]
 rintro b3 ⟨ee,cI,bJ,c6⟩ hm;rw[lT]at hm;refine A.seq<|axy [(0,.ptr 1 0),(4,.ptr 79 0),(7,av az ee),(8,U cI),(20,.bool ((decide (0<cI))&&(decide (0<(p.cn.length:Int)))))] [(1,.c 103 [av az bJ,U c6]),(79,.cells 28 (bV p))] (λhk=>?_) ?_
 ·rcases kF (decide (0<cI))with aN|aN
  ·exact aO [(2,ax (b0 aN)),(5,ax (cb fN p.cn)),(7,ax (oH (q:=decide (0<(p.cn.length:Int))) aN))] _ _ hk
  exact aO [(2,ax (b0 aN)),(7,ax (oI (q:=decide (0<(p.cn.length:Int))) aN))] _ _ hk
 rcases bL hm with⟨bw,hm⟩|⟨bw,hm⟩
 ·refine bz bw<|A.skip<|A.seq<|A.block ?_
  obtain⟨bq,D,hm⟩:=aU hm;obtain⟨cr,aj,hm⟩:=aU hm;obtain⟨cu,aV,hm⟩:=aU hm;exact hr [(6,ax (cb fN p.cn)),(7,gW [] (q5 D) rW),(8,b7 (ix fN aj)),(11,bI (JL aV) IC)] [7,20] [(7,av az cu)] [1] [(1,.cells 103 (hp bq.2))]<|cB [] [8] [(8,U (bE (cI-1)))]<|Exists.intro (cu,bE (cI-1),bq.2.L,bq.2.At) (And.intro hm (gM [] [7]))
 refine bx bw<|A.exit<|c0 [] [0,4,7,8,20] [(6,av az ee)] [79] [] ?_
 cases hm;exact A.ret bG
def JM{p:bu}{r:Bool}(hm:JO p=some r):dn prog 35 [] [.agg (bV p)] (.bool r):=by
 refine dE func35 rfl rfl ?_;unfold JO at hm;refine aO [(0,.al 190)] [(1,.ptr 190 0)] [(190,.cells 28 (bV p))]<|axy [(2,.bool ((decide ((p.cn.length:Int)≤(30:Int)))&&(decide ((p.Links.length:Int)≤(70:Int)))))] [] (λhk=>?_) ?_
 ·rcases kF (decide ((p.cn.length:Int)≤(30:Int)))with aN|aN
  ·exact aO [(2,ax (cb fN p.cn)),(4,ax (b0 aN)),(7,ax (cb ff p.Links)),(10,ax (oH (q:=decide ((p.Links.length:Int)≤(70:Int))) aN))] _ _ hk
  exact aO [(2,ax (cb fN p.cn)),(4,ax (b0 aN)),(10,ax (oI (q:=decide ((p.Links.length:Int)≤(70:Int))) aN))] _ _ hk
 cases hm;exact A.ret bG
end
section
open Go Go.Proofs.Tryz List
set_option maxRecDepth 100000
set_option linter.all false
variable {dD:Int}{r:Bool}
def Qv(hm:Ga dD=some r):dn prog 186 [] [U dD] (.bool r):=by
 refine dE func186 rfl rfl ?_;unfold Ga at hm;refine aO [] [(0,U dD)] []<|aO [] [(2,.bool (!decide (dD=dD)))] [] ?_
 cases hm;exact A.ret bG
def atH{y:Int}(hm:Gt dD y=some r):dn prog 185 [] [U dD,U y] (.bool r):=by
 refine dE func185 rfl rfl ?_;unfold Gt at hm;refine aO [] [(0,U dD),(1,U y)] [] ?_;obtain⟨aJ,h1,hm⟩:=aU hm;rcases bL hm with⟨aN,hm⟩|⟨aN,hm⟩
 ·obtain⟨bq,D,hm⟩:=aU hm;rcases bL hm with⟨bw,hm⟩|⟨bw,hm⟩
  ·refine aO [(1,bI (Ap h1) BF),(2,ax (b0 aN)),(4,bI (Ap D) BF),(7,ax (b0 bw))] [(4,.bool true)] [] ?_;cases hm;exact A.ret bG
  refine aO [(1,bI (Ap h1) BF),(2,ax (b0 aN)),(4,bI (Ap D) BF),(7,ax (b0 bw))] [(4,.d (dD<y))] [] ?_;cases hm;exact A.ret bG
 refine aO [(1,bI (Ap h1) BF),(2,ax (b0 aN))] [(4,.d (dD<y))] [] ?_;cases hm;exact A.ret bG
def aqg{dD:cN}{target:Int}{r:Int×Bool}(hm:Fe dD target=some r):dn prog 157 [] [av az dD,U target] (.dm [U r.1,.bool r.2]):=by
 refine dE func157 rfl rfl ?_;unfold Fe at hm;refine aO [] [(0,av az dD),(1,U target)] []<|aH [(1,ax (cb az dD))] [] [(6,U dD.length)]<|aH [] [] [(7,U 0),(8,U dD.length)]<|A.seq<|A.block ?_
 obtain⟨lQ,iE,lT,hm⟩:=n1 hm;refine axJ (F:=lQ) hm (λ(cI,gJ)=>[(0,av az dD),(1,U target),(6,U dD.length),(7,U cI),(8,U gJ)]) (λ(cI,gJ)=>[]) ?_ ?_
 ·exact fm
 rintro b3 ⟨cI,gJ⟩ hm;rw[lT]at hm;refine A.seq<|aH [] [] [(15,.d (cI<gJ))] ?_
 rcases bL hm with⟨aN,hm⟩|⟨aN,hm⟩
 ·refine bz aN<|A.skip<|A.block<|aH [(4,.sh (1:Int) (by decide))] [15] [(9,U (bE (Int.fdiv (IntKind.wrap .u64 (bE (cI+gJ))) (2 ^ min (1:Int).toNat 64))))] ?_
  obtain⟨cr,h1,hm⟩:=aU hm;obtain⟨aJ,D,hm⟩:=aU hm;refine aH [(2,b7 (ix az h1)),(5,bI (atH D) alr)] [] [(27,.bool aJ)] ?_;rcases bL hm with⟨bw,hm⟩|⟨bw,hm⟩
  ·exact bz bw<|cB [] [7,9,27] [(7,U (bE ((bE (Int.fdiv (IntKind.wrap .u64 (bE (cI+gJ))) (2 ^ min (1:Int).toNat 64)))+(1:Int))))]<|ck (bE ((bE (Int.fdiv (IntKind.wrap .u64 (bE (cI+gJ))) (2 ^ min (1:Int).toNat 64)))+(1:Int)),gJ) hm
  exact bx bw<|cB [] [8,9,27] [(8,U (bE (Int.fdiv (IntKind.wrap .u64 (bE (cI+gJ))) (2 ^ min (1:Int).toNat 64))))]<|ck (cI,bE (Int.fdiv (IntKind.wrap .u64 (bE (cI+gJ))) (2 ^ min (1:Int).toNat 64))) hm
 refine bx aN<|A.exit ?_
 rcases bL hm with⟨cg,hm⟩|⟨cg,hm⟩
 ·obtain⟨e6,aj,hm⟩:=aU hm;rcases bL hm with⟨dR,hm⟩|⟨dR,hm⟩
  ·refine aO [(4,ax (b0 cg)),(7,b7 (ix az aj)),(11,ax (b0 dR))] [(4,U cI),(5,.bool true)] [] ?_;cases hm;exact A.ret bG
  obtain⟨bq,aV,hm⟩:=aU hm;rcases bL hm with⟨eV,hm⟩|⟨eV,hm⟩
  ·obtain⟨cu,b4,hm⟩:=aU hm;refine aO [(4,ax (b0 cg)),(7,b7 (ix az aj)),(11,ax (b0 dR)),(14,b7 (ix az aj)),(16,bI (Qv aV) NI),(17,ax (b0 eV)),(19,bI (Qv b4) NI)] [(4,U cI),(5,.bool cu)] [] ?_;cases hm;exact A.ret bG
  refine aO [(4,ax (b0 cg)),(7,b7 (ix az aj)),(11,ax (b0 dR)),(14,b7 (ix az aj)),(16,bI (Qv aV) NI),(17,ax (b0 eV))] [(4,U cI),(5,.bool false)] [] ?_;cases hm;exact A.ret bG
 refine aO [(4,ax (b0 cg))] [(4,U cI),(5,.bool false)] [] ?_;cases hm;exact A.ret bG
def JK{n:Int}(hm:CO n=some r):dn prog 142 [] [U n] (.bool r):=by
 refine dE func142 rfl rfl ?_;unfold CO at hm;refine aO [] [(0,U n)] []<|axy [(2,.bool ((decide (1≤n))&&(decide (n≤99))))] [] (λhk=>?_) ?_
 ·rcases kF (decide (1≤n))with aN|aN
  ·exact aO [(2,ax (b0 aN)),(6,ax (oH (q:=decide (n≤99)) aN))] _ _ hk
  exact aO [(2,ax (b0 aN)),(6,ax (oI (q:=decide (n≤99)) aN))] _ _ hk
 cases hm;exact A.ret bG
variable {t:bR}
def asE{r:(List (Int×Bool))}(hm:FZ t=some r):dn prog 143 [] [.agg (gL t)] (.ec (fh .i64 jw r)):=by
 refine dE func143 rfl rfl ?_;unfold FZ at hm;refine aO [(0,.al 42)] [(1,.ptr 42 0)] [(42,.cells 36 (gL t))]<|c0 [(0,.al 41),(3,yD (u5 (k:=.i64) (enc:=jw) [] t.cc true rfl))] [] [(3,.ep 41)] [] [(41,.map 3 4 (fh .i64 jw (eG [] t.cc true)))]<|A.seq<|aH [] [] [(4,.bool true)]<|A.block ?_
 obtain⟨lQ,iE,lT,hm⟩:=n1 hm;refine axJ (F:=lQ) hm (λ(DB,bJ)=>[(1,.ptr 42 0),(3,.ep 41),(4,.bool DB)]) (λ(DB,bJ)=>[(42,.cells 36 (gL t)),(41,.map 3 4 (fh .i64 jw bJ))]) ?_ ?_
 ·exact fm
 rintro b3 ⟨DB,bJ⟩ hm;rw[lT]at hm;refine A.seq<|aH [] [] [(11,.bool DB)] ?_
 rcases bL hm with⟨aN,hm⟩|⟨aN,hm⟩
 ·refine bz aN<|A.skip<|A.block<|aH [] [4,11] [(4,.bool false)]<|aH [(2,ax (cb bH t.Links))] [] [(13,av bH t.Links),(14,U t.Links.length),(15,U 0)]<|A.block<|axt 13 rfl λgr=>?_
  obtain⟨jQ,iH,jZ,j0,hm⟩:=fF hm;refine axq (l:=t.Links) (e3:=0) (B:=jQ) (K:=iH) hm (λbN=>λ(u2,c6)=>[(1,.ptr 42 0),(3,.ep 41),(4,.bool u2),(13,av bH t.Links),(14,U t.Links.length),(15,U bN)]) (λbN=>λ(u2,c6)=>[(42,.cells 36 (gL t)),(41,.map 3 4 (fh .i64 jw c6))]) ?_ ?_ ?_
  ·exact fm
  ·rintro bN e2 gX ⟨u2,c6⟩ h6 eu hm;rw[jZ]at hm;refine aH [] [] [(16,.d ((bN:Int)<t.Links.length))]<|A.seq<|bz (fC eu)<|A.skip ?_
   obtain⟨dx,iu,hm⟩:=h2 hm;refine A.J (J:=dx) (r:=r) (λ(DC,et)=>[(1,.ptr 42 0),(3,.ep 41),(4,.bool DC),(13,av bH t.Links),(14,U t.Links.length),(15,U bN)]) (λ(DC,et)=>[(42,.cells 36 (gL t)),(41,.map 3 4 (fh .i64 jw et))]) ?_ ?_
   ·refine A.block<|c0 [(0,b7 (ix bH (eM eu))),(2,.al 136)] [16] [(6,.ptr 136 0)] [] [(136,.cells 84 (i3 e2))] ?_
    refine axy [(1,.ptr 42 0),(3,.ep 41),(4,.bool u2),(13,av bH t.Links),(14,U t.Links.length),(15,U bN),(6,.ptr 136 0),(29,.bool (((cH c6 e2.bh).getD false)&&(!((cH c6 e2.aS).getD false))))] [(42,.cells 36 (gL t)),(41,.map 3 4 (fh .i64 jw c6)),(136,.cells 84 (i3 e2))] (λhk=>?_) ?_
    ·rcases kF ((cH c6 e2.bh).getD false)with bw|bw
     ·exact aO [(3,CD (lk (E:=4) (k:=.i64) (enc:=jw) c6 e2.bh false (λw=>⟨_,zeroValue4 w,λI=>by simp[bk,dB,jw]⟩))),(4,ax (b0 bw)),(8,CD (lk (E:=4) (k:=.i64) (enc:=jw) c6 e2.aS false (λw=>⟨_,zeroValue4 w,λI=>by simp[bk,dB,jw]⟩))),(10,ax (oH (q:=!((cH c6 e2.aS).getD false)) bw))] _ _ hk
     exact aO [(3,CD (lk (E:=4) (k:=.i64) (enc:=jw) c6 e2.bh false (λw=>⟨_,zeroValue4 w,λI=>by simp[bk,dB,jw]⟩))),(4,ax (b0 bw)),(10,ax (oI (q:=!((cH c6 e2.aS).getD false)) bw))] _ _ hk
    rcases bL hm with⟨cg,hm⟩|⟨cg,hm⟩
    ·exact bz cg<|hr [(3,yD (u5 (k:=.i64) (enc:=jw) c6 e2.aS true rfl))] [4,6,29] [(4,.bool true)] [41,136] [(41,.map 3 4 (fh .i64 jw (eG c6 e2.aS true)))]<|ck (true,eG c6 e2.aS true) hm
    exact bx cg<|A.skip<|ck (u2,c6) hm
   rintro⟨DC,et⟩ hm;rw[iu]at hm;exact cB [(0,ax (fk eu gr))] [15] [(15,U ((bN+1:Nat):Int))]<|ck (DC,et) hm
  rintro bN ⟨u2,c6⟩ h6 iR hm;rw[j0]at hm;exact aH [] [] [(16,.d ((bN:Int)<t.Links.length))]<|A.seq<|bx (fB iR)<|A.exit<|ck (u2,c6) hm
 refine bx aN<|A.exit<|c0 [] [1,3,4,11] [(2,.ep 41)] [42] []<|A.ret ?_
 obtain rfl:=nU hm;exact axv cQ [.dO [41]] rfl (by kernel_rfl)
def Ql{r:Int}(hm:yc t=some r):dn prog 72 [] [.agg (gL t)] (U r):=by
 refine dE func72 rfl rfl ?_;unfold yc at hm;refine aO [(0,.al 24)] [(1,.ptr 24 0)] [(24,.cells 36 (gL t))]<|A.seq ?_
 obtain⟨aJ,h1,hm⟩:=aU hm;refine aH [(2,bI (JK h1) Ia)] [] [(17,.bool (!aJ))] ?_;rcases bL hm with⟨aN,hm⟩|⟨aN,hm⟩
 ·refine bz aN<|aO [] [(2,U 2)] [] ?_
  cases hm;exact A.ret bG
 refine bx aN<|A.skip<|A.seq<|aH [(2,ax (cb bH t.Links))] [17] [(19,av bH t.Links),(20,U t.Links.length),(21,U 0)]<|A.block<|axt 19 rfl λdX=>?_
 obtain⟨eT,eU,eW,eO,hm⟩:=fF hm;refine axq (l:=t.Links) (e3:=0) (B:=eT) (K:=eU) hm (λau=>λ()=>[(1,.ptr 24 0),(19,av bH t.Links),(20,U t.Links.length),(21,U au)]) (λau=>λ()=>[(24,.cells 36 (gL t))]) ?_ ?_ ?_
 ·exact fm
 ·rintro au e1 b3 ⟨⟩ eX bF hm;rw[eW]at hm;refine aH [] [] [(22,.d ((au:Int)<t.Links.length))]<|A.seq<|bz (fC bF)<|A.skip<|A.seq<|A.block<|c0 [(0,b7 (ix bH (eM bF))),(2,.al 198)] [22] [(4,.ptr 198 0)] [] [(198,.cells 84 (i3 e1))] ?_
  obtain⟨dx,iu,hm⟩:=h2 hm;refine A.J (J:=dx) (r:=r) (λeL=>[(1,.ptr 24 0),(19,av bH t.Links),(20,U t.Links.length),(21,U au),(34,.bool eL)]) (λeL=>[(24,.cells 36 (gL t))]) ?_ ?_
  ·obtain⟨bq,D,hm⟩:=aU hm;rcases bL hm with⟨bw,hm⟩|⟨bw,hm⟩
   ·exact hr [(2,bI (JK D) Ia),(4,ax (b0 bw))] [4] [(34,.bool true)] [198] []<|ck true hm
   obtain⟨cu,aj,hm⟩:=aU hm;exact hr [(2,bI (JK D) Ia),(4,ax (b0 bw)),(7,bI (JK aj) Ia)] [4] [(34,.bool (!cu))] [198] []<|ck (!cu) hm
  rintro eL hm;rw[iu]at hm;rcases bL hm with⟨cg,hm⟩|⟨cg,hm⟩
  ·refine bz cg<|aO [] [(2,U 2)] [] ?_
   cases hm;exact A.ret bG
  exact bx cg<|A.skip<|cB [(0,ax (fk bF dX))] [21,34] [(21,U ((au+1:Nat):Int))]<|ck () hm
 rintro au ⟨⟩ eX er hm;rw[eO]at hm;refine aH [] [] [(22,.d ((au:Int)<t.Links.length))]<|A.seq<|bx (fB er)<|A.exit<|A.seq<|aH [] [19,20,21,22] [(5,U 1)]<|A.block<|axO 1 1 rfl rfl rfl λgr=>?_
 obtain⟨jQ,iH,jZ,j0,hm⟩:=fF hm;refine axq (l:=t.Links) (e3:=1) (B:=jQ) (K:=iH) hm (λbN=>λ()=>[(1,.ptr 24 0),(5,U bN)]) (λbN=>λ()=>[(24,.cells 36 (gL t))]) ?_ ?_ ?_
 ·exact fm
 ·rintro bN e2 gX ⟨⟩ h6 eu hm;rw[jZ]at hm;refine A.seq<|aH [(3,ax (cb bH t.Links))] [] [(40,.d ((bN:Int)<t.Links.length))] ?_
  refine bz (fC eu)<|A.skip<|A.seq<|A.block ?_
  obtain⟨cr,aV,hm⟩:=aU hm;refine c0 [(4,b7 (ix bH aV)),(9,b7 (ix bH (eM eu))),(11,.al 199),(12,.al 200)] [40] [(6,.ptr 199 0),(7,.ptr 200 0)] [] [(199,.cells 84 (i3 cr)),(200,.cells 84 (i3 e2))] ?_;obtain⟨eg,b4,hm⟩:=aU hm;obtain⟨dQ,dz,hm⟩:=aU hm;obtain⟨dF,fz,hm⟩:=aU hm;refine c0 [(4,bI (uv b4) u6),(9,bI (uv dz) u6),(11,bI (Gi fz) En)] [6,7] [(66,.d (0≤dF))] [199,200] [] ?_;rcases bL hm with⟨dR,hm⟩|⟨dR,hm⟩
  ·refine bz dR<|aO [] [(2,U 25)] [] ?_
   cases hm;exact A.ret bG
  exact bx dR<|A.skip<|cB [(1,ax (fk eu gr))] [5,66] [(5,U ((bN+1:Nat):Int))]<|ck () hm
 rintro bN ⟨⟩ h6 iR hm;rw[j0]at hm;refine A.seq<|aH [(3,ax (cb bH t.Links))] [] [(40,.d ((bN:Int)<t.Links.length))] ?_
 refine bx (fB iR)<|A.exit<|c0 [(0,.al 69),(3,yD (u5 (k:=.i64) (enc:=jw) [] t.cc true rfl))] [5,40] [(8,.ep 69)] [] [(69,.map 3 4 (fh .i64 jw (eG [] t.cc true)))]<|A.seq<|aH [(2,ax (cb bH t.Links))] [] [(72,av bH t.Links),(73,U t.Links.length),(74,U 0)]<|A.block<|axt 72 rfl λnJ=>?_
 obtain⟨nv,nw,nH,nI,hm⟩:=fF hm;refine axq (l:=t.Links) (e3:=0) (B:=nv) (K:=nw) hm (λdd=>λbJ=>[(1,.ptr 24 0),(8,.ep 69),(72,av bH t.Links),(73,U t.Links.length),(74,U dd)]) (λdd=>λbJ=>[(24,.cells 36 (gL t)),(69,.map 3 4 (fh .i64 jw bJ))]) ?_ ?_ ?_
 ·exact fm
 ·rintro dd bT jc bJ ml h7 hm;rw[nH]at hm;refine aH [] [] [(75,.d ((dd:Int)<t.Links.length))]<|A.seq<|bz (fC h7)<|A.skip<|A.seq<|A.block<|c0 [(0,b7 (ix bH (eM h7))),(2,.al 144)] [75] [(10,.ptr 144 0)] [] [(144,.cells 84 (i3 bT))]<|A.seq<|aH [(3,CD (lk (E:=4) (k:=.i64) (enc:=jw) bJ bT.aS false (λw=>⟨_,zeroValue4 w,λI=>by simp[bk,dB,jw]⟩)))] [] [(81,.bool ((cH bJ bT.aS).getD false))] ?_
  rcases bL hm with⟨eV,hm⟩|⟨eV,hm⟩
  ·refine bz eV<|aO [] [(2,U 8)] [] ?_
   cases hm;exact A.ret bG
  exact bx eV<|A.skip<|hr [(3,yD (u5 (k:=.i64) (enc:=jw) bJ bT.aS true rfl))] [10,81] [] [69,144] [(69,.map 3 4 (fh .i64 jw (eG bJ bT.aS true)))]<|cB [(0,ax (fk h7 nJ))] [74] [(74,U ((dd+1:Nat):Int))]<|ck (eG bJ bT.aS true) hm
 rintro dd bJ ml jO hm;rw[nI]at hm;refine aH [] [] [(75,.d ((dd:Int)<t.Links.length))]<|A.seq<|bx (fB jO)<|A.exit ?_
 obtain⟨gU,hv,hm⟩:=aU hm;refine c0 [(1,bI (asE hv) alb)] [8,72,73,74,75] [(11,.ec (fh .i64 jw gU))] [69] []<|A.seq<|c0 [(2,ax (cb bH t.Links))] [1] [(89,av bH t.Links),(90,U t.Links.length),(91,U 0)] [24] []<|A.block<|axt 89 rfl λw5=>?_
 obtain⟨wO,wP,w3,w4,hm⟩:=fF hm;refine axq (l:=t.Links) (e3:=0) (B:=wO) (K:=wP) hm (λhN=>λ()=>[(11,.ec (fh .i64 jw gU)),(89,av bH t.Links),(90,U t.Links.length),(91,U hN)]) (λhN=>λ()=>[]) ?_ ?_ ?_
 ·exact fm
 ·rintro hN fG mb ⟨⟩ w8 lC hm;rw[w3]at hm;refine aH [] [] [(92,.d ((hN:Int)<t.Links.length))]<|A.seq<|bz (fC lC)<|A.skip<|A.seq<|A.block<|c0 [(0,b7 (ix bH (eM lC))),(2,.al 201)] [92] [(13,.ptr 201 0)] [] [(201,.cells 84 (i3 fG))]<|c0 [(3,CB gU fG.bh jw false U7 (as7 zeroValue4))] [13] [(99,.bool (!((cH gU fG.bh).getD false)))] [201] [] ?_
  rcases bL hm with⟨gY,hm⟩|⟨gY,hm⟩
  ·refine bz gY<|aO [] [(2,U 10)] [] ?_
   cases hm;exact A.ret bG
  exact bx gY<|A.skip<|cB [(0,ax (fk lC w5))] [91,99] [(91,U ((hN+1:Nat):Int))]<|ck () hm
 rintro hN ⟨⟩ w8 qz hm;rw[w4]at hm;refine aH [] [] [(92,.d ((hN:Int)<t.Links.length))]<|A.seq<|bx (fB qz)<|A.exit<|aO [] [(2,U 0)] [] ?_
 cases hm;exact A.ret bG
def asF{r:(cN)}(hm:F0 t=some r):dn prog 75 [] [.agg (gL t)] (av az r):=by
 refine dE func75 rfl rfl ?_;unfold F0 at hm;refine aO [(0,.al 115)] [(1,.ptr 115 0)] [(115,.cells 36 (gL t))]<|A.seq ?_
 obtain⟨aJ,h1,hm⟩:=aU hm;refine aH [(1,bI (Ql h1) Oa)] [] [(8,.bool (!decide (aJ=0)))] ?_;rcases bL hm with⟨aN,hm⟩|⟨aN,hm⟩
 ·refine bz aN<|aO [] [(2,.dh)] [] ?_
  cases hm;exact A.ret bG
 refine bx aN<|A.skip<|c0 [(2,.al 131)] [8] [(3,.own 131)] [] [(131,.slice 3 1 (aM az ([t.cc]:cN)) 0 false)]<|A.seq<|c0 [(2,ax (cb bH t.Links))] [1] [(13,av bH t.Links),(14,U t.Links.length),(15,U 0)] [115] []<|A.block<|axt 13 rfl λdX=>?_
 obtain⟨eT,eU,eW,eO,hm⟩:=fF hm;refine axq (l:=t.Links) (e3:=0) (B:=eT) (K:=eU) hm (λau=>λee=>[(3,.own 600075003),(13,av bH t.Links),(14,U t.Links.length),(15,U au)]) (λau=>λee=>[(600075003,.slice 3 1 (aM az ee) 0 false)]) ?_ ?_ ?_
 ·exact gM [.ja 131 600075003] []
 ·rintro au e1 b3 ee eX bF hm;rw[eW]at hm;refine aH [] [] [(16,.d ((au:Int)<t.Links.length))]<|A.seq<|bz (fC bF)<|A.skip<|A.seq<|A.block<|c0 [(0,b7 (ix bH (eM bF))),(2,.al 202)] [16] [(5,.ptr 202 0)] [] [(202,.cells 84 (i3 e1))] ?_
  obtain⟨dk,D,hm⟩:=aU hm;exact hr [(4,m4 132 (ap az (bytes:=8) (by decide) D))] [3,5] [(3,.own 132)] [600075003,202] [(132,.slice 3 1 (aM az dk) 0 false)]<|cB [(0,ax (fk bF dX))] [15] [(15,U ((au+1:Nat):Int))]<|Exists.intro dk (And.intro hm (gM [.ja 132 600075003] []))
 rintro au ee eX er hm;rw[eO]at hm;refine aH [] [] [(16,.d ((au:Int)<t.Links.length))]<|A.seq<|bx (fB er)<|A.exit ?_
 obtain⟨aj,hm⟩:=mD hm;refine aO [(1,gW [] (T6 (d:=600075003) (T:=3) ee (of_decide_eq_true aj)) Wj)] [(3,.own 600075003)] [(600075003,.slice 3 1 (aM az (mL ee)) 0 false)]<|aH [] [3] [(2,.own 600075003)]<|A.ret ?_
 obtain rfl:=nU hm;exact axv cQ [.dO [600075003]] rfl (by kernel_rfl)
end
section
open Go Go.Proofs.Tryz List
set_option maxRecDepth 100000
set_option linter.all false
variable {r:Int}
def asy{a:aQ}{b:aQ}(hm:JP a b=some r):dn prog 125 [] [.agg (i3 a),.agg (i3 b)] (U r):=by
 refine dE func125 rfl rfl ?_;unfold JP at hm;refine aO [(0,.al 170),(1,.al 171)] [(2,.ptr 170 0),(3,.ptr 171 0)] [(170,.cells 84 (i3 a)),(171,.cells 84 (i3 b))] ?_;obtain⟨aJ,h1,hm⟩:=aU hm;obtain⟨bq,D,hm⟩:=aU hm;obtain⟨cu,aj,hm⟩:=aU hm;refine aO [(4,bI (uv h1) u6),(9,bI (uv D) u6),(11,bI (Gi aj) En)] [(4,U cu)] [] ?_;cases hm;exact A.ret bG
def abG{a:bW}{b:bW}(hm:Kn a b=some r):dn prog 128 [] [.agg (rM a),.agg (rM b)] (U r):=by
 refine dE func128 rfl rfl ?_;unfold Kn at hm;refine aO [(0,.al 172),(1,.al 173)] [(2,.ptr 172 0),(3,.ptr 173 0)] [(172,.cells 175 (rM a)),(173,.cells 175 (rM b))] ?_;obtain⟨aJ,h1,hm⟩:=aU hm;obtain⟨bq,D,hm⟩:=aU hm;obtain⟨cu,aj,hm⟩:=aU hm;refine aO [(6,bI (uv h1) u6),(13,bI (uv D) u6),(15,bI (Gi aj) En)] [(4,U cu)] [] ?_;cases hm;exact A.ret bG
def asz{a:bB}{b:bB}(hm:JQ a b=some r):dn prog 155 [] [.agg (vY a),.agg (vY b)] (U r):=by
 refine dE func155 rfl rfl ?_;unfold JQ at hm;refine aO [(0,.al 183),(1,.al 184)] [(2,.ptr 183 0),(3,.ptr 184 0)] [(183,.cells 60 (vY a)),(184,.cells 60 (vY b))] ?_;obtain⟨aJ,h1,hm⟩:=aU hm;obtain⟨bq,D,hm⟩:=aU hm;obtain⟨cu,aj,hm⟩:=aU hm;refine aO [(4,bI (uv h1) u6),(9,bI (uv D) u6),(11,bI (Gi aj) En)] [(4,U cu)] [] ?_;cases hm;exact A.ret bG
end
section
set_option linter.all false
open Go Go.Proofs.Tryz Go.Sort Go.Lib Go.Shelf Go.RowKit
set_option maxRecDepth 100000
def Ey(x y:Int):Int:=if x<y then -1 else if y<x then 1 else 0
def Mv(x y:Int):pt x y=some (Ey x y):=by
 unfold pt wY Ey;by_cases h:x<y
 ·simp[h,aB]
 ·by_cases D:y<x<;>simp[h,D,aB]
def ayt:Shelf.Ren:=
 {  f:=λx=>match x with|6=>124|15=>178|14=>177|28=>206|29=>207|20=>198|21=>199|22=>200|23=>201|24=>202|25=>203|26=>204|27=>205|46=>235|47=>236|48=>237|49=>238|50=>239|57=>258|n=>n,t:=λx=>match x with|22=>34|24=>84|25=>158|3=>3|39=>178|0=>0|53=>252|55=>254|4=>4|46=>246|45=>245|50=>89|5=>5|9=>9|66=>272|70=>276|76=>289|77=>290|n=>n,g:=λn=>n}
def ayd:SlLaysF0.n6 prog ayt:=
  {mixed:=by kernel_rfl,f6:=⟨ "slices.SortFunc[[]bitcast/api.Hop,bitcast/api.Hop]",of_decide_eq_true (by kernel_rfl),func124.trans (by kernel_rfl)⟩,
   f14:=⟨ "slices.pdqsortCmpFunc[bitcast/api.Hop]",of_decide_eq_true (by kernel_rfl),func177.trans (by kernel_rfl)⟩,f15:=func178.trans (by kernel_rfl),
   f20:=⟨ "slices.insertionSortCmpFunc[bitcast/api.Hop]",of_decide_eq_true (by kernel_rfl),func198.trans (by kernel_rfl)⟩,f21:=⟨ "slices.heapSortCmpFunc[bitcast/api.Hop]",
   of_decide_eq_true (by kernel_rfl),func199.trans (by kernel_rfl)⟩,f22:=⟨ "slices.breakPatternsCmpFunc[bitcast/api.Hop]",of_decide_eq_true (by kernel_rfl),func200.trans (by kernel_rfl)⟩,
   f23:=⟨ "slices.choosePivotCmpFunc[bitcast/api.Hop]",of_decide_eq_true (by kernel_rfl),func201.trans (by kernel_rfl)⟩,f24:=⟨ "slices.reverseRangeCmpFunc[bitcast/api.Hop]",
   of_decide_eq_true (by kernel_rfl),func202.trans (by kernel_rfl)⟩,f25:=⟨ "slices.partialInsertionSortCmpFunc[bitcast/api.Hop]",of_decide_eq_true (by kernel_rfl),
   func203.trans (by kernel_rfl)⟩,f26:=⟨ "slices.partitionEqualCmpFunc[bitcast/api.Hop]",of_decide_eq_true (by kernel_rfl),func204.trans (by kernel_rfl)⟩,
   f27:=⟨ "slices.partitionCmpFunc[bitcast/api.Hop]",of_decide_eq_true (by kernel_rfl),func205.trans (by kernel_rfl)⟩,f28:=func206.trans (by kernel_rfl),
   f29:=func207.trans (by kernel_rfl),f46:=⟨ "slices.siftDownCmpFunc[bitcast/api.Hop]",of_decide_eq_true (by kernel_rfl),func235.trans (by kernel_rfl)⟩,
   f47:=func236.trans (by kernel_rfl),f48:=func237.trans (by kernel_rfl),f49:=⟨ "slices.medianAdjacentCmpFunc[bitcast/api.Hop]",of_decide_eq_true (by kernel_rfl),
   func238.trans (by kernel_rfl)⟩,f50:=⟨ "slices.medianCmpFunc[bitcast/api.Hop]",of_decide_eq_true (by kernel_rfl),func239.trans (by kernel_rfl)⟩,
   f57:=⟨ "slices.order2CmpFunc[bitcast/api.Hop]",of_decide_eq_true (by kernel_rfl),func258.trans (by kernel_rfl)⟩,t0:=underlying0,a0:=isAgg0,z0:=sizeOf0,
   v0:=zeroValue0,t3:=underlying3,a3:=isAgg3,z3:=sizeOf3,v3:=zeroValue3,t4:=underlying4,a4:=isAgg4,z4:=sizeOf4,v4:=zeroValue4,
   t5:=underlying5,a5:=isAgg5,z5:=sizeOf5,v5:=zeroValue5,t9:=underlying9,a9:=isAgg9,z9:=sizeOf9,v9:=zeroValue9,t22:=underlying34,
   a22:=isAgg34,z22:=sizeOf34,v22:=zeroValue34,t25:=underlying158,a25:=isAgg158,z25:=sizeOf158,v25:=zeroValue158,t39:=underlying178,
   a39:=isAgg178,z39:=sizeOf178,v39:=zeroValue178,t45:=underlying245,a45:=isAgg245,z45:=sizeOf245,v45:=zeroValue245,t46:=underlying246,
   a46:=isAgg246,z46:=sizeOf246,v46:=zeroValue246,t50:=underlying89,a50:=isAgg89,z50:=sizeOf89,v50:=zeroValue89,t53:=underlying252,
   a53:=isAgg252,z53:=sizeOf252,v53:=zeroValue252,t55:=underlying254,a55:=isAgg254,z55:=sizeOf254,v55:=zeroValue254,t66:=underlying272,
   a66:=isAgg272,z66:=sizeOf272,v66:=zeroValue272,t70:=underlying276,a70:=isAgg276,z70:=sizeOf276,v70:=zeroValue276,t76:=underlying289,
   a76:=isAgg289,z76:=sizeOf289,v76:=zeroValue289,t77:=underlying290,a77:=isAgg290,z77:=sizeOf290,v77:=zeroValue290}
def DL(x:aQ):fK:=[.int .i64 x.bh,.int .i64 x.aS]
def asB(I:bP)(x:aQ)(vs:fK):cD I (bH.enc x) vs↔vs=DL x:=by
 show cD I [.int .i64 x.bh,.int .i64 x.aS] vs↔vs=_;simp only[cD,bk];constructor
 ·rintro⟨_,_,rfl,rfl,⟨_,_,rfl,rfl,rfl⟩⟩;rfl
 ·rintro rfl;exact⟨_,_,rfl,rfl,⟨_,_,rfl,rfl,rfl⟩⟩
def asD(I:bP)(β:Nat→Value)(x:aQ):cw I β (bH.enc x) (DL x):=by
 show cw I β [.int .i64 x.bh,.int .i64 x.aS] _;simp only[cw,aD,bk];exact⟨_,_,rfl,rfl,⟨_,_,rfl,rfl,rfl⟩⟩
def ast(x:aQ):∀v∈DL x,v.oneCell'=true:=by
 intro v ai;simp only[DL,List.mem_cons,List.not_mem_nil,or_false]at ai;rcases ai with rfl|rfl<;>rfl
def alw(a b:aQ):JP a b=some (gD [λx:aQ=>x.bh,λx:aQ=>x.aS] a b):=by
 unfold JP tb;simp only[Mv,Ey,gD];rcases Int.lt_trichotomy a.bh b.bh with bA|bA|bA<;>rcases Int.lt_trichotomy a.aS b.aS with h1|h1|h1<;>simp[aB,cK,bA,h1]<;>(repeat (first|rw[if_neg (by omega)]|rw[if_pos (by omega)]))<;>simp
def agP:Ir prog 124 125 DL 2 (gD [λx:aQ=>x.bh,λx:aQ=>x.aS]):=λcV off aT d w uE Y Z=>
 AnyQ.slices_SortFunc ayd 2 isAgg84 sizeOf84 DL (λ_=>rfl) ast _ (Mn _) 125 #[] cV off aT d w (enters_of func125 (by kernel_rfl) rfl)
  (RA asD (λx y=>asy (alw x y)) cV off d.size w) uE Y Z
def adT{d T:Nat}{zs bD:Es}(h:o4 (gD [λx:aQ=>x.bh,λx:aQ=>x.aS]) zs=some bD):gZ prog 124 [(d,.slice T 2 (aM bH zs) 0 false)] [.own d,.fn 125 []] (λr aL=>r=.dm []∧aL=[(d,.slice T 2 (aM bH bD) 0 false)]):=
 RV asB (by decide) (λ_=>rfl) (λ_=>rfl) (A0 _) agP (λp aT Ag w=>AnyF.slices_SortFunc_none ayd p aT Ag w) h
def ayu:Shelf.Ren:=
 {  f:=λx=>match x with|6=>127|15=>178|14=>179|28=>206|29=>207|20=>208|21=>209|22=>210|23=>211|24=>212|25=>213|26=>214|27=>215|46=>240|47=>236|48=>237|49=>241|50=>242|57=>259|n=>n,t:=λx=>match x with|22=>111|24=>175|25=>177|3=>3|39=>178|0=>0|53=>252|55=>254|4=>4|46=>246|45=>245|50=>89|5=>5|9=>9|66=>272|70=>276|76=>289|77=>290|n=>n,g:=λn=>n}
def aye:SlLaysF0.n6 prog ayu:=
  {mixed:=by kernel_rfl,f6:=⟨ "slices.SortFunc[[]bitcast/arbor.Arc,bitcast/arbor.Arc]",of_decide_eq_true (by kernel_rfl),func127.trans (by kernel_rfl)⟩,
   f14:=⟨ "slices.pdqsortCmpFunc[bitcast/arbor.Arc]",of_decide_eq_true (by kernel_rfl),func179.trans (by kernel_rfl)⟩,f15:=func178.trans (by kernel_rfl),
   f20:=⟨ "slices.insertionSortCmpFunc[bitcast/arbor.Arc]",of_decide_eq_true (by kernel_rfl),func208.trans (by kernel_rfl)⟩,f21:=⟨ "slices.heapSortCmpFunc[bitcast/arbor.Arc]",
   of_decide_eq_true (by kernel_rfl),func209.trans (by kernel_rfl)⟩,f22:=⟨ "slices.breakPatternsCmpFunc[bitcast/arbor.Arc]",of_decide_eq_true (by kernel_rfl),func210.trans (by kernel_rfl)⟩,
   f23:=⟨ "slices.choosePivotCmpFunc[bitcast/arbor.Arc]",of_decide_eq_true (by kernel_rfl),func211.trans (by kernel_rfl)⟩,f24:=⟨ "slices.reverseRangeCmpFunc[bitcast/arbor.Arc]",
   of_decide_eq_true (by kernel_rfl),func212.trans (by kernel_rfl)⟩,f25:=⟨ "slices.partialInsertionSortCmpFunc[bitcast/arbor.Arc]",of_decide_eq_true (by kernel_rfl),
   func213.trans (by kernel_rfl)⟩,f26:=⟨ "slices.partitionEqualCmpFunc[bitcast/arbor.Arc]",of_decide_eq_true (by kernel_rfl),func214.trans (by kernel_rfl)⟩,
   f27:=⟨ "slices.partitionCmpFunc[bitcast/arbor.Arc]",of_decide_eq_true (by kernel_rfl),func215.trans (by kernel_rfl)⟩,f28:=func206.trans (by kernel_rfl),
   f29:=func207.trans (by kernel_rfl),f46:=⟨ "slices.siftDownCmpFunc[bitcast/arbor.Arc]",of_decide_eq_true (by kernel_rfl),func240.trans (by kernel_rfl)⟩,
   f47:=func236.trans (by kernel_rfl),f48:=func237.trans (by kernel_rfl),f49:=⟨ "slices.medianAdjacentCmpFunc[bitcast/arbor.Arc]",of_decide_eq_true (by kernel_rfl),
   func241.trans (by kernel_rfl)⟩,f50:=⟨ "slices.medianCmpFunc[bitcast/arbor.Arc]",of_decide_eq_true (by kernel_rfl),func242.trans (by kernel_rfl)⟩,
   f57:=⟨ "slices.order2CmpFunc[bitcast/arbor.Arc]",of_decide_eq_true (by kernel_rfl),func259.trans (by kernel_rfl)⟩,t0:=underlying0,a0:=isAgg0,z0:=sizeOf0,
   v0:=zeroValue0,t3:=underlying3,a3:=isAgg3,z3:=sizeOf3,v3:=zeroValue3,t4:=underlying4,a4:=isAgg4,z4:=sizeOf4,v4:=zeroValue4,
   t5:=underlying5,a5:=isAgg5,z5:=sizeOf5,v5:=zeroValue5,t9:=underlying9,a9:=isAgg9,z9:=sizeOf9,v9:=zeroValue9,t22:=underlying111,
   a22:=isAgg111,z22:=sizeOf111,v22:=zeroValue111,t25:=underlying177,a25:=isAgg177,z25:=sizeOf177,v25:=zeroValue177,t39:=underlying178,
   a39:=isAgg178,z39:=sizeOf178,v39:=zeroValue178,t45:=underlying245,a45:=isAgg245,z45:=sizeOf245,v45:=zeroValue245,t46:=underlying246,
   a46:=isAgg246,z46:=sizeOf246,v46:=zeroValue246,t50:=underlying89,a50:=isAgg89,z50:=sizeOf89,v50:=zeroValue89,t53:=underlying252,
   a53:=isAgg252,z53:=sizeOf252,v53:=zeroValue252,t55:=underlying254,a55:=isAgg254,z55:=sizeOf254,v55:=zeroValue254,t66:=underlying272,
   a66:=isAgg272,z66:=sizeOf272,v66:=zeroValue272,t70:=underlying276,a70:=isAgg276,z70:=sizeOf276,v70:=zeroValue276,t76:=underlying289,
   a76:=isAgg289,z76:=sizeOf289,v76:=zeroValue289,t77:=underlying290,a77:=isAgg290,z77:=sizeOf290,v77:=zeroValue290}
def DD(x:bW):fK:=[.int .i64 x.Hop.bh,.int .i64 x.Hop.aS,.int .i64 x.hM]
def alx(I:bP)(x:bW)(vs:fK):cD I (fl.enc x) vs↔vs=DD x:=by
 show cD I [.int .i64 x.Hop.bh,.int .i64 x.Hop.aS,.int .i64 x.hM] vs↔vs=_;simp only[cD,bk];constructor
 ·rintro⟨_,_,rfl,rfl,⟨_,_,rfl,rfl,⟨_,_,rfl,rfl,rfl⟩⟩⟩;rfl
 ·rintro rfl;exact⟨_,_,rfl,rfl,⟨_,_,rfl,rfl,⟨_,_,rfl,rfl,rfl⟩⟩⟩
def aly(I:bP)(β:Nat→Value)(x:bW):cw I β (fl.enc x) (DD x):=by
 show cw I β [.int .i64 x.Hop.bh,.int .i64 x.Hop.aS,.int .i64 x.hM] _;simp only[cw,aD,bk];exact⟨_,_,rfl,rfl,⟨_,_,rfl,rfl,⟨_,_,rfl,rfl,rfl⟩⟩⟩
def akY(x:bW):∀v∈DD x,v.oneCell'=true:=by
 intro v ai;simp only[DD,List.mem_cons,List.not_mem_nil,or_false]at ai;rcases ai with rfl|rfl|rfl<;>rfl
def akZ(a b:bW):Kn a b=some (gD [λx:bW=>x.Hop.bh,λx:bW=>x.Hop.aS] a b):=by
 unfold Kn tb;simp only[Mv,Ey,gD];rcases Int.lt_trichotomy a.Hop.bh b.Hop.bh with bA|bA|bA<;>rcases Int.lt_trichotomy a.Hop.aS b.Hop.aS with h1|h1|h1<;>simp[aB,cK,bA,h1]<;>(repeat (first|rw[if_neg (by omega)]|rw[if_pos (by omega)]))<;>simp
def agQ:Ir prog 127 128 DD 3 (gD [λx:bW=>x.Hop.bh,λx:bW=>x.Hop.aS]):=λcV off aT d w uE Y Z=>
 AnyQ.slices_SortFunc aye 3 isAgg175 sizeOf175 DD (λ_=>rfl) akY _ (Mn _) 128 #[] cV off aT d w (enters_of func128 (by kernel_rfl) rfl)
  (RA aly (λx y=>abG (akZ x y)) cV off d.size w) uE Y Z
def adV{d T:Nat}{zs bD:yO}(h:o4 (gD [λx:bW=>x.Hop.bh,λx:bW=>x.Hop.aS]) zs=some bD):gZ prog 127 [(d,.slice T 3 (aM fl zs) 0 false)] [.own d,.fn 128 []] (λr aL=>r=.dm []∧aL=[(d,.slice T 3 (aM fl bD) 0 false)]):=
 RV alx (by decide) (λ_=>rfl) (λ_=>rfl) (A0 _) agQ (λp aT Ag w=>AnyF.slices_SortFunc_none aye p aT Ag w) h
def ayv:Shelf.Ren:=
 {  f:=λx=>match x with|6=>154|15=>178|14=>184|28=>206|29=>207|20=>224|21=>225|22=>226|23=>227|24=>228|25=>229|26=>230|27=>231|46=>246|47=>236|48=>237|49=>247|50=>248|57=>261|n=>n,t:=λx=>match x with|22=>53|24=>60|25=>200|3=>3|39=>178|0=>0|53=>252|55=>254|4=>4|46=>246|45=>245|50=>89|5=>5|9=>9|66=>272|70=>276|76=>289|77=>290|n=>n,g:=λn=>n}
def ayf:SlLaysF0.n6 prog ayv:=
  {mixed:=by kernel_rfl,f6:=⟨ "slices.SortFunc[[]bitcast/api.Load,bitcast/api.Load]",of_decide_eq_true (by kernel_rfl),func154.trans (by kernel_rfl)⟩,
   f14:=⟨ "slices.pdqsortCmpFunc[bitcast/api.Load]",of_decide_eq_true (by kernel_rfl),func184.trans (by kernel_rfl)⟩,f15:=func178.trans (by kernel_rfl),
   f20:=⟨ "slices.insertionSortCmpFunc[bitcast/api.Load]",of_decide_eq_true (by kernel_rfl),func224.trans (by kernel_rfl)⟩,f21:=⟨ "slices.heapSortCmpFunc[bitcast/api.Load]",
   of_decide_eq_true (by kernel_rfl),func225.trans (by kernel_rfl)⟩,f22:=⟨ "slices.breakPatternsCmpFunc[bitcast/api.Load]",of_decide_eq_true (by kernel_rfl),func226.trans (by kernel_rfl)⟩,
   f23:=⟨ "slices.choosePivotCmpFunc[bitcast/api.Load]",of_decide_eq_true (by kernel_rfl),func227.trans (by kernel_rfl)⟩,f24:=⟨ "slices.reverseRangeCmpFunc[bitcast/api.Load]",
   of_decide_eq_true (by kernel_rfl),func228.trans (by kernel_rfl)⟩,f25:=⟨ "slices.partialInsertionSortCmpFunc[bitcast/api.Load]",of_decide_eq_true (by kernel_rfl),
   func229.trans (by kernel_rfl)⟩,f26:=⟨ "slices.partitionEqualCmpFunc[bitcast/api.Load]",of_decide_eq_true (by kernel_rfl),func230.trans (by kernel_rfl)⟩,
   f27:=⟨ "slices.partitionCmpFunc[bitcast/api.Load]",of_decide_eq_true (by kernel_rfl),func231.trans (by kernel_rfl)⟩,f28:=func206.trans (by kernel_rfl),
   f29:=func207.trans (by kernel_rfl),f46:=⟨ "slices.siftDownCmpFunc[bitcast/api.Load]",of_decide_eq_true (by kernel_rfl),func246.trans (by kernel_rfl)⟩,
   f47:=func236.trans (by kernel_rfl),f48:=func237.trans (by kernel_rfl),f49:=⟨ "slices.medianAdjacentCmpFunc[bitcast/api.Load]",of_decide_eq_true (by kernel_rfl),
   func247.trans (by kernel_rfl)⟩,f50:=⟨ "slices.medianCmpFunc[bitcast/api.Load]",of_decide_eq_true (by kernel_rfl),func248.trans (by kernel_rfl)⟩,
   f57:=⟨ "slices.order2CmpFunc[bitcast/api.Load]",of_decide_eq_true (by kernel_rfl),func261.trans (by kernel_rfl)⟩,t0:=underlying0,a0:=isAgg0,z0:=sizeOf0,
   v0:=zeroValue0,t3:=underlying3,a3:=isAgg3,z3:=sizeOf3,v3:=zeroValue3,t4:=underlying4,a4:=isAgg4,z4:=sizeOf4,v4:=zeroValue4,
   t5:=underlying5,a5:=isAgg5,z5:=sizeOf5,v5:=zeroValue5,t9:=underlying9,a9:=isAgg9,z9:=sizeOf9,v9:=zeroValue9,t22:=underlying53,
   a22:=isAgg53,z22:=sizeOf53,v22:=zeroValue53,t25:=underlying200,a25:=isAgg200,z25:=sizeOf200,v25:=zeroValue200,t39:=underlying178,
   a39:=isAgg178,z39:=sizeOf178,v39:=zeroValue178,t45:=underlying245,a45:=isAgg245,z45:=sizeOf245,v45:=zeroValue245,t46:=underlying246,
   a46:=isAgg246,z46:=sizeOf246,v46:=zeroValue246,t50:=underlying89,a50:=isAgg89,z50:=sizeOf89,v50:=zeroValue89,t53:=underlying252,
   a53:=isAgg252,z53:=sizeOf252,v53:=zeroValue252,t55:=underlying254,a55:=isAgg254,z55:=sizeOf254,v55:=zeroValue254,t66:=underlying272,
   a66:=isAgg272,z66:=sizeOf272,v66:=zeroValue272,t70:=underlying276,a70:=isAgg276,z70:=sizeOf276,v70:=zeroValue276,t76:=underlying289,
   a76:=isAgg289,z76:=sizeOf289,v76:=zeroValue289,t77:=underlying290,a77:=isAgg290,z77:=sizeOf290,v77:=zeroValue290}
def DM(x:bB):fK:=[.int .i64 x.bh,.int .i64 x.aS,.int .i64 x.Count]
def asA(I:bP)(x:bB)(vs:fK):cD I (cp.enc x) vs↔vs=DM x:=by
 show cD I [.int .i64 x.bh,.int .i64 x.aS,.int .i64 x.Count] vs↔vs=_;simp only[cD,bk];constructor
 ·rintro⟨_,_,rfl,rfl,⟨_,_,rfl,rfl,⟨_,_,rfl,rfl,rfl⟩⟩⟩;rfl
 ·rintro rfl;exact⟨_,_,rfl,rfl,⟨_,_,rfl,rfl,⟨_,_,rfl,rfl,rfl⟩⟩⟩
def asC(I:bP)(β:Nat→Value)(x:bB):cw I β (cp.enc x) (DM x):=by
 show cw I β [.int .i64 x.bh,.int .i64 x.aS,.int .i64 x.Count] _;simp only[cw,aD,bk];exact⟨_,_,rfl,rfl,⟨_,_,rfl,rfl,⟨_,_,rfl,rfl,rfl⟩⟩⟩
def ass(x:bB):∀v∈DM x,v.oneCell'=true:=by
 intro v ai;simp only[DM,List.mem_cons,List.not_mem_nil,or_false]at ai;rcases ai with rfl|rfl|rfl<;>rfl
def ak0(a b:bB):JQ a b=some (gD [λx:bB=>x.bh,λx:bB=>x.aS] a b):=by
 unfold JQ tb;simp only[Mv,Ey,gD];rcases Int.lt_trichotomy a.bh b.bh with bA|bA|bA<;>rcases Int.lt_trichotomy a.aS b.aS with h1|h1|h1<;>simp[aB,cK,bA,h1]<;>(repeat (first|rw[if_neg (by omega)]|rw[if_pos (by omega)]))<;>simp
def agR:Ir prog 154 155 DM 3 (gD [λx:bB=>x.bh,λx:bB=>x.aS]):=λcV off aT d w uE Y Z=>
 AnyQ.slices_SortFunc ayf 3 isAgg60 sizeOf60 DM (λ_=>rfl) ass _ (Mn _) 155 #[] cV off aT d w (enters_of func155 (by kernel_rfl) rfl)
  (RA asC (λx y=>asz (ak0 x y)) cV off d.size w) uE Y Z
def adX{d T:Nat}{zs bD:xe}(h:o4 (gD [λx:bB=>x.bh,λx:bB=>x.aS]) zs=some bD):gZ prog 154 [(d,.slice T 3 (aM cp zs) 0 false)] [.own d,.fn 155 []] (λr aL=>r=.dm []∧aL=[(d,.slice T 3 (aM cp bD) 0 false)]):=
 RV asA (by decide) (λ_=>rfl) (λ_=>rfl) (A0 _) agR (λp aT Ag w=>AnyF.slices_SortFunc_none ayf p aT Ag w) h
end
section
open Go Go.Proofs.Tryz List
set_option maxRecDepth 100000
set_option linter.all false
def abT{t:bu}{r:(yO)}(hm:GP t=some r):gZ prog 64 [] [.agg (bV t)] (λa aL=>a=.own 141∧aL=[(141,.slice 175 3 (aM fl r) 0 false)]):=by
 refine dE func64 rfl rfl ?_;unfold GP at hm;refine aO [(0,.al 143)] [(1,.ptr 143 0)] [(143,.cells 28 (bV t))]<|aH [] [] [(3,.dh)]<|A.seq<|c0 [(2,ax (cb ff t.Links))] [1] [(7,av ff t.Links),(8,U t.Links.length),(9,U 0)] [143] []<|A.block<|axt 7 rfl λdX=>?_
 obtain⟨eT,eU,eW,eO,hm⟩:=fF hm;refine axq (l:=t.Links) (e3:=0) (B:=eT) (K:=eU) hm (λau=>λee=>[(3,.own 600064003),(7,av ff t.Links),(8,U t.Links.length),(9,U au)]) (λau=>λee=>[(600064003,.slice 175 3 (aM fl ee) 0 false)]) ?_ ?_ ?_
 ·exact gM [.ad 3 600064003 175 3] []
 ·rintro au e1 b3 ee eX bF hm;rw[eW]at hm;refine aH [] [] [(10,.d ((au:Int)<t.Links.length))]<|A.seq<|bz (fC bF)<|A.skip<|A.seq<|A.block<|c0 [(0,b7 (ix ff (eM bF))),(2,.al 195)] [10] [(5,.ptr 195 0)] [] [(195,.cells 62 (ga e1))] ?_
  obtain⟨dk,h1,hm⟩:=aU hm;exact hr [(18,m4 129 (ap fl (bytes:=24) (by decide) h1))] [3,5] [(3,.own 129)] [600064003,195] [(129,.slice 175 3 (aM fl dk) 0 false)]<|cB [(0,ax (fk bF dX))] [9] [(9,U ((au+1:Nat):Int))]<|Exists.intro dk (And.intro hm (gM [.ja 129 600064003] []))
 rintro au ee eX er hm;rw[eO]at hm;refine aH [] [] [(10,.d ((au:Int)<t.Links.length))]<|A.seq<|bx (fB er)<|A.exit ?_
 obtain⟨iD,D,hm⟩:=aU hm;refine aO [(1,gW [] (adV (d:=600064003) (T:=175) D) alU)] [(3,.own 600064003)] [(600064003,.slice 175 3 (aM fl iD) 0 false)]<|aH [] [3] [(2,.own 600064003)]<|A.ret ?_
 obtain rfl:=nU hm;exact axv cQ [.ja 600064003 141] rfl (by kernel_rfl)
end
section
open Go Go.Proofs.Tryz List
set_option maxRecDepth 100000
set_option linter.all false
def asG{l:cN}{r:Bool}(hm:F1 l=some r):dn prog 74 [] [av az l] (.bool r):=by
 refine dE func74 rfl rfl ?_;unfold F1 at hm;refine aO [] [(0,av az l)] []<|A.seq<|aH [] [] [(3,U 1)]<|A.block<|axt 0 rfl λdX=>?_
 obtain⟨eT,eU,eW,eO,hm⟩:=fF hm;refine axq (l:=l) (e3:=1) (B:=eT) (K:=eU) hm (λau=>λ()=>[(0,av az l),(3,U au)]) (λau=>λ()=>[]) ?_ ?_ ?_
 ·exact fm
 ·rintro au e1 b3 ⟨⟩ eX bF hm;rw[eW]at hm;refine A.seq<|aH [(2,ax (cb az l))] [] [(7,.d ((au:Int)<l.length))] ?_
  refine bz (fC bF)<|A.skip<|A.seq<|A.block ?_
  obtain⟨cr,h1,hm⟩:=aU hm;refine aH [(3,b7 (ix az h1)),(7,b7 (ix az (eM bF)))] [7] [(19,.d (e1≤cr))] ?_;rcases bL hm with⟨aN,hm⟩|⟨aN,hm⟩
  ·refine bz aN<|aO [] [(2,.bool false)] [] ?_
   cases hm;exact A.ret bG
  exact bx aN<|A.skip<|cB [(1,ax (fk bF dX))] [3,19] [(3,U ((au+1:Nat):Int))]<|ck () hm
 rintro au ⟨⟩ eX er hm;rw[eO]at hm;refine A.seq<|aH [(2,ax (cb az l))] [] [(7,.d ((au:Int)<l.length))] ?_
 refine bx (fB er)<|A.exit<|aO [] [(2,.bool true)] [] ?_
 cases hm;exact A.ret bG
variable {en:bR}{t:bu}
def JN{dP:cN}{r:Int}(hm:Ao t en dP=some r):dn prog 20 [] [.agg (bV t),.agg (gL en),av az dP] (U r):=by
 refine dE func20 rfl rfl ?_;unfold Ao at hm;refine aO [(0,.al 37),(1,.al 33)] [(2,av az dP),(3,.ptr 37 0),(4,.ptr 33 0)] [(37,.cells 28 (bV t)),(33,.cells 36 (gL en))]<|A.seq ?_
 obtain⟨aJ,h1,hm⟩:=aU hm;refine aH [(1,bI (QC h1) N9)] [] [(19,.bool (!decide (aJ=0)))] ?_;rcases bL hm with⟨aN,hm⟩|⟨aN,hm⟩
 ·refine bz aN<|aO [] [(6,U 1)] [] ?_
  cases hm;exact A.ret bG
 refine bx aN<|A.skip<|A.seq ?_
 obtain⟨bq,D,hm⟩:=aU hm;refine aH [(1,bI (Ql D) Oa)] [19] [(7,U bq)]<|aH [] [] [(23,.bool (!decide (bq=0)))] ?_
 rcases bL hm with⟨bw,hm⟩|⟨bw,hm⟩
 ·refine bz bw<|aO [] [(6,U bq)] [] ?_
  cases hm;exact A.ret bG
 refine bx bw<|A.skip<|A.seq ?_
 obtain⟨dk,aj,hm⟩:=aU hm;refine c0 [(2,.al 20027),(4,m4 76 (ap az (bytes:=8) (by decide) aj)),(5,ax (cb az dk))] [7,23] [(29,.own 76),(30,U dk.length),(31,U 0)] [] [(76,.slice 3 1 (aM az dk) 0 false)]<|A.block<|ays 29 rfl rfl λdX=>?_
 obtain⟨eT,eU,eW,eO,hm⟩:=fF hm;refine axq (l:=dk) (e3:=0) (B:=eT) (K:=eU) hm (λau=>λ()=>[(2,av az dP),(3,.ptr 37 0),(4,.ptr 33 0),(29,.own 76),(30,U dk.length),(31,U au)]) (λau=>λ()=>[(37,.cells 28 (bV t)),(33,.cells 36 (gL en)),(76,.slice 3 1 (aM az dk) 0 false)]) ?_ ?_ ?_
 ·exact fm
 ·rintro au e1 b3 ⟨⟩ eX bF hm;rw[eW]at hm;refine aH [] [] [(32,.d ((au:Int)<dk.length))]<|A.seq<|bz (fC bF)<|A.skip<|A.seq<|A.block<|aH [(0,b7 (ix az (eM bF))),(1,lX 76 0 (ix az (eM bF)))] [32] [(9,U e1)] ?_
  obtain⟨cu,aV,hm⟩:=aU hm;refine aH [(2,bI (aab aV) XY)] [9] [(38,.bool (!cu))] ?_;rcases bL hm with⟨cg,hm⟩|⟨cg,hm⟩
  ·refine bz cg<|aO [] [(6,U 4)] [] ?_
   cases hm;exact A.ret bG
  exact bx cg<|A.skip<|cB [(0,ax (fk bF dX))] [31,38] [(31,U ((au+1:Nat):Int))]<|ck () hm
 rintro au ⟨⟩ eX er hm;rw[eO]at hm;refine aH [] [] [(32,.d ((au:Int)<dk.length))]<|A.seq<|bx (fB er)<|A.exit<|A.seq<|c0 [(2,ax (cb bH en.Links))] [29,30,31,32] [(41,av bH en.Links),(42,U en.Links.length),(43,U 0)] [76] []<|A.block<|axt 41 rfl λgr=>?_
 obtain⟨jQ,iH,jZ,j0,hm⟩:=fF hm;refine axq (l:=en.Links) (e3:=0) (B:=jQ) (K:=iH) hm (λbN=>λ()=>[(2,av az dP),(3,.ptr 37 0),(4,.ptr 33 0),(41,av bH en.Links),(42,U en.Links.length),(43,U bN)]) (λbN=>λ()=>[(37,.cells 28 (bV t)),(33,.cells 36 (gL en))]) ?_ ?_ ?_
 ·exact fm
 ·rintro bN e2 gX ⟨⟩ h6 eu hm;rw[jZ]at hm;refine aH [] [] [(44,.d ((bN:Int)<en.Links.length))]<|A.seq<|bz (fC eu)<|A.skip<|A.seq<|A.block<|c0 [(0,b7 (ix bH (eM eu))),(2,.al 186)] [44] [(11,.ptr 186 0)] [] [(186,.cells 84 (i3 e2))] ?_
  obtain⟨eg,b4,hm⟩:=aU hm;refine c0 [(5,bI (ZY b4) XX)] [11] [(13,.bool eg.2)] [186] []<|aH [] [13] [(57,.bool (!eg.2))] ?_
  rcases bL hm with⟨dR,hm⟩|⟨dR,hm⟩
  ·refine bz dR<|aO [] [(6,U 4)] [] ?_
   cases hm;exact A.ret bG
  exact bx dR<|A.skip<|cB [(0,ax (fk eu gr))] [43,57] [(43,U ((bN+1:Nat):Int))]<|ck () hm
 rintro bN ⟨⟩ h6 iR hm;rw[j0]at hm;refine aH [] [] [(44,.d ((bN:Int)<en.Links.length))]<|A.seq<|bx (fB iR)<|A.exit<|A.seq ?_
 obtain⟨dQ,dz,hm⟩:=aU hm;refine c0 [(1,bI (asG dz) amL)] [3,41,42,43,44] [(61,.bool (!dQ))] [37] [] ?_;rcases bL hm with⟨eV,hm⟩|⟨eV,hm⟩
 ·refine bz eV<|aO [] [(6,U 25)] [] ?_
  cases hm;exact A.ret bG
 refine bx eV<|A.skip ?_
 obtain⟨dF,fz,hm⟩:=aU hm;refine c0 [(1,bI (asF fz) amM)] [4,61] [(14,av az dF)] [33] []<|A.seq<|aH [(1,ax (cb az dP))] [2] [(64,av az dP),(65,U dP.length),(66,U 0)]<|A.block<|axt 64 rfl λnJ=>?_
 obtain⟨nv,nw,nH,nI,hm⟩:=fF hm;refine axq (l:=dP) (e3:=0) (B:=nv) (K:=nw) hm (λdd=>λ()=>[(14,av az dF),(64,av az dP),(65,U dP.length),(66,U dd)]) (λdd=>λ()=>[]) ?_ ?_ ?_
 ·exact fm
 ·rintro dd bT jc ⟨⟩ ml h7 hm;rw[nH]at hm;refine aH [] [] [(67,.d ((dd:Int)<dP.length))]<|A.seq<|bz (fC h7)<|A.skip<|A.seq<|A.block<|aH [(0,b7 (ix az (eM h7)))] [67] [(16,U bT)] ?_
  obtain⟨gU,hv,hm⟩:=aU hm;refine aH [(2,bI (aqD hv) amN)] [16] [(73,.bool (!gU))] ?_;rcases bL hm with⟨gY,hm⟩|⟨gY,hm⟩
  ·refine bz gY<|aO [] [(6,U 9)] [] ?_
   cases hm;exact A.ret bG
  exact bx gY<|A.skip<|cB [(0,ax (fk h7 nJ))] [66,73] [(66,U ((dd+1:Nat):Int))]<|ck () hm
 rintro dd ⟨⟩ ml jO hm;rw[nI]at hm;refine aH [] [] [(67,.d ((dd:Int)<dP.length))]<|A.seq<|bx (fB jO)<|A.exit<|aO [] [(6,U 0)] [] ?_
 cases hm;exact A.ret bG
def atI{r:Int×Int}(hm:Gu t en=some r):dn prog 19 [] [.agg (bV t),.agg (gL en)] (.dm [U r.1,U r.2]):=by
 refine dE func19 rfl rfl ?_;unfold Gu at hm;refine aO [(0,.al 53),(1,.al 93)] [(2,.ptr 53 0),(3,.ptr 93 0)] [(53,.cells 28 (bV t)),(93,.cells 36 (gL en))]<|A.seq ?_
 obtain⟨aJ,h1,hm⟩:=aU hm;refine aH [(2,bI (JN h1) IA)] [] [(6,U aJ)]<|aH [] [] [(16,.bool (!decide (aJ=0)))] ?_
 rcases bL hm with⟨aN,hm⟩|⟨aN,hm⟩
 ·refine bz aN<|aO [] [(4,U 0),(5,U aJ)] [] ?_
  cases hm;exact A.ret bG
 refine bx aN<|A.skip<|aH [] [6,16] [(7,U 0)]<|A.seq<|c0 [(2,ax (cb bH en.Links))] [3] [(19,av bH en.Links),(20,U en.Links.length),(21,U 0)] [93] []<|A.block<|axt 19 rfl λdX=>?_
 obtain⟨eT,eU,eW,eO,hm⟩:=fF hm;refine axq (l:=en.Links) (e3:=0) (B:=eT) (K:=eU) hm (λau=>λu7=>[(2,.ptr 53 0),(7,U u7),(19,av bH en.Links),(20,U en.Links.length),(21,U au)]) (λau=>λu7=>[(53,.cells 28 (bV t))]) ?_ ?_ ?_
 ·exact fm
 ·rintro au e1 b3 u7 eX bF hm;rw[eW]at hm;refine aH [] [] [(22,.d ((au:Int)<en.Links.length))]<|A.seq<|bz (fC bF)<|A.skip<|A.seq<|A.block<|c0 [(0,b7 (ix bH (eM bF))),(2,.al 185)] [22] [(9,.ptr 185 0)] [] [(185,.cells 84 (i3 e1))] ?_
  obtain⟨bq,D,hm⟩:=aU hm;exact c0 [(5,bI (ZY D) XX)] [9] [(10,U bq.1)] [185] []<|cB [] [7,10] [(7,U (bE (u7+bq.1)))]<|cB [(0,ax (fk bF dX))] [21] [(21,U ((au+1:Nat):Int))]<|ck (bE (u7+bq.1)) hm
 rintro au u7 eX er hm;rw[eO]at hm;refine aH [] [] [(22,.d ((au:Int)<en.Links.length))]<|A.seq<|bx (fB er)<|A.exit<|aO [] [(4,U u7),(5,U 0)] [] ?_
 cases hm;exact A.ret bG
end
section
open Go Go.Proofs.Tryz List
set_option maxRecDepth 100000
set_option linter.all false
variable {en:bR}{t:bu}
def QH{dP:cN}{r:Int}(hm:Ai t en dP=some r):dn prog 21 [] [.agg (bV t),.agg (gL en),av az dP] (U r):=by
 refine dE func21 rfl rfl ?_;unfold Ai at hm;refine aO [(0,.al 34),(1,.al 32)] [(2,av az dP),(3,.ptr 34 0),(4,.ptr 32 0)] [(34,.cells 28 (bV t)),(32,.cells 36 (gL en))]<|A.seq ?_
 obtain⟨aJ,h1,hm⟩:=aU hm;refine aH [(1,bI (CW h1) B6)] [] [(19,.bool (!decide (aJ=0)))] ?_;rcases bL hm with⟨aN,hm⟩|⟨aN,hm⟩
 ·refine bz aN<|aO [] [(6,U 1)] [] ?_
  cases hm;exact A.ret bG
 refine bx aN<|A.skip<|A.seq ?_
 obtain⟨bq,D,hm⟩:=aU hm;refine aH [(1,bI (QG D) Ob)] [19] [(7,U bq)]<|aH [] [] [(23,.bool (!decide (bq=0)))] ?_
 rcases bL hm with⟨bw,hm⟩|⟨bw,hm⟩
 ·refine bz bw<|aO [] [(6,U bq)] [] ?_
  cases hm;exact A.ret bG
 refine bx bw<|A.skip<|A.seq ?_
 obtain⟨cu,aj,hm⟩:=aU hm;refine aH [(3,bI (Q1 aj) Oc)] [7,23] [(29,.bool (!cu))] ?_;rcases bL hm with⟨cg,hm⟩|⟨cg,hm⟩
 ·refine bz cg<|aO [] [(6,U 4)] [] ?_
  cases hm;exact A.ret bG
 refine bx cg<|A.skip<|A.seq<|aH [(1,ax (cb az dP))] [29] [(30,av az dP),(31,U dP.length),(32,U 0)]<|A.block<|axt 2 rfl λdX=>?_
 obtain⟨eT,eU,eW,eO,hm⟩:=fF hm;refine axq (l:=dP) (e3:=0) (B:=eT) (K:=eU) hm (λau=>λ()=>[(2,av az dP),(3,.ptr 34 0),(4,.ptr 32 0),(30,av az dP),(31,U dP.length),(32,U au)]) (λau=>λ()=>[(34,.cells 28 (bV t)),(32,.cells 36 (gL en))]) ?_ ?_ ?_
 ·exact fm
 ·rintro au e1 b3 ⟨⟩ eX bF hm;rw[eW]at hm;refine aH [] [] [(33,.d ((au:Int)<dP.length))]<|A.seq<|bz (fC bF)<|A.skip<|A.seq<|A.block<|aH [(0,b7 (ix az (eM bF)))] [33] [(9,U e1)] ?_
  obtain⟨eg,aV,hm⟩:=aU hm;refine aH [(2,bI (Q1 aV) Oc)] [9] [(39,.bool (!eg))] ?_;rcases bL hm with⟨dR,hm⟩|⟨dR,hm⟩
  ·refine bz dR<|aO [] [(6,U 4)] [] ?_
   cases hm;exact A.ret bG
  exact bx dR<|A.skip<|cB [(0,ax (fk bF dX))] [32,39] [(32,U ((au+1:Nat):Int))]<|ck () hm
 rintro au ⟨⟩ eX er hm;rw[eO]at hm;refine aH [] [] [(33,.d ((au:Int)<dP.length))]<|A.seq<|bx (fB er)<|A.exit<|A.seq<|aH [(2,ax (cb bH en.Links))] [30,31,32,33] [(42,av bH en.Links),(43,U en.Links.length),(44,U 0)]<|A.block<|axt 42 rfl λgr=>?_
 obtain⟨jQ,iH,jZ,j0,hm⟩:=fF hm;refine axq (l:=en.Links) (e3:=0) (B:=jQ) (K:=iH) hm (λbN=>λ()=>[(2,av az dP),(3,.ptr 34 0),(4,.ptr 32 0),(42,av bH en.Links),(43,U en.Links.length),(44,U bN)]) (λbN=>λ()=>[(34,.cells 28 (bV t)),(32,.cells 36 (gL en))]) ?_ ?_ ?_
 ·exact fm
 ·rintro bN e2 gX ⟨⟩ h6 eu hm;rw[jZ]at hm;refine aH [] [] [(45,.d ((bN:Int)<en.Links.length))]<|A.seq<|bz (fC eu)<|A.skip<|A.seq<|A.block<|c0 [(0,b7 (ix bH (eM eu))),(2,.al 187)] [45] [(11,.ptr 187 0)] [] [(187,.cells 84 (i3 e2))] ?_
  obtain⟨dQ,b4,hm⟩:=aU hm;refine c0 [(5,bI (aan b4) XZ)] [11] [(13,.bool dQ.2)] [187] []<|aH [] [13] [(58,.bool (!dQ.2))] ?_
  rcases bL hm with⟨eV,hm⟩|⟨eV,hm⟩
  ·refine bz eV<|aO [] [(6,U 4)] [] ?_
   cases hm;exact A.ret bG
  exact bx eV<|A.skip<|cB [(0,ax (fk eu gr))] [44,58] [(44,U ((bN+1:Nat):Int))]<|ck () hm
 rintro bN ⟨⟩ h6 iR hm;rw[j0]at hm;refine aH [] [] [(45,.d ((bN:Int)<en.Links.length))]<|A.seq<|bx (fB iR)<|A.exit<|A.seq ?_
 obtain⟨dF,dz,hm⟩:=aU hm;refine c0 [(1,bI (ZJ dz) X0)] [3,42,43,44,45] [(62,.bool (!dF))] [34] [] ?_;rcases bL hm with⟨gY,hm⟩|⟨gY,hm⟩
 ·refine bz gY<|aO [] [(6,U 25)] [] ?_
  cases hm;exact A.ret bG
 refine bx gY<|A.skip ?_
 obtain⟨gU,fz,hm⟩:=aU hm;refine c0 [(1,bI (as2 fz) amO)] [4,62] [(14,av az gU)] [32] []<|A.seq<|aH [(1,ax (cb az dP))] [2] [(65,av az dP),(66,U dP.length),(67,U 0)]<|A.block<|axt 65 rfl λnJ=>?_
 obtain⟨nv,nw,nH,nI,hm⟩:=fF hm;refine axq (l:=dP) (e3:=0) (B:=nv) (K:=nw) hm (λdd=>λ()=>[(14,av az gU),(65,av az dP),(66,U dP.length),(67,U dd)]) (λdd=>λ()=>[]) ?_ ?_ ?_
 ·exact fm
 ·rintro dd bT jc ⟨⟩ ml h7 hm;rw[nH]at hm;refine aH [] [] [(68,.d ((dd:Int)<dP.length))]<|A.seq<|bz (fC h7)<|A.skip<|A.seq<|A.block<|aH [(0,b7 (ix az (eM h7)))] [68] [(16,U bT)] ?_
  obtain⟨mq,hv,hm⟩:=aU hm;refine aH [(2,bI (vw hv) wM)] [16] [(74,.bool (!mq))] ?_;rcases bL hm with⟨i1,hm⟩|⟨i1,hm⟩
  ·refine bz i1<|aO [] [(6,U 9)] [] ?_
   cases hm;exact A.ret bG
  exact bx i1<|A.skip<|cB [(0,ax (fk h7 nJ))] [67,74] [(67,U ((dd+1:Nat):Int))]<|ck () hm
 rintro dd ⟨⟩ ml jO hm;rw[nI]at hm;refine aH [] [] [(68,.d ((dd:Int)<dP.length))]<|A.seq<|bx (fB jO)<|A.exit<|aO [] [(6,U 0)] [] ?_
 cases hm;exact A.ret bG
def abH{r:Int×Int}(hm:GJ t en=some r):dn prog 29 [] [.agg (bV t),.agg (gL en)] (.dm [U r.1,U r.2]):=by
 refine dE func29 rfl rfl ?_;unfold GJ at hm;refine aO [(0,.al 54),(1,.al 96)] [(2,.ptr 54 0),(3,.ptr 96 0)] [(54,.cells 28 (bV t)),(96,.cells 36 (gL en))]<|A.seq ?_
 obtain⟨aJ,h1,hm⟩:=aU hm;refine aH [(2,bI (QH h1) N5)] [] [(6,U aJ)]<|aH [] [] [(16,.bool (!decide (aJ=0)))] ?_
 rcases bL hm with⟨aN,hm⟩|⟨aN,hm⟩
 ·refine bz aN<|aO [] [(4,U 0),(5,U aJ)] [] ?_
  cases hm;exact A.ret bG
 refine bx aN<|A.skip<|aH [] [6,16] [(7,U 0)]<|A.seq<|c0 [(2,ax (cb bH en.Links))] [3] [(19,av bH en.Links),(20,U en.Links.length),(21,U 0)] [96] []<|A.block<|axt 19 rfl λdX=>?_
 obtain⟨eT,eU,eW,eO,hm⟩:=fF hm;refine axq (l:=en.Links) (e3:=0) (B:=eT) (K:=eU) hm (λau=>λjL=>[(2,.ptr 54 0),(7,U jL),(19,av bH en.Links),(20,U en.Links.length),(21,U au)]) (λau=>λjL=>[(54,.cells 28 (bV t))]) ?_ ?_ ?_
 ·exact fm
 ·rintro au e1 b3 jL eX bF hm;rw[eW]at hm;refine aH [] [] [(22,.d ((au:Int)<en.Links.length))]<|A.seq<|bz (fC bF)<|A.skip<|A.seq<|A.block<|c0 [(0,b7 (ix bH (eM bF))),(2,.al 189)] [22] [(9,.ptr 189 0)] [] [(189,.cells 84 (i3 e1))] ?_
  obtain⟨bq,D,hm⟩:=aU hm;exact c0 [(5,bI (aan D) XZ)] [9] [(10,U bq.1)] [189] []<|cB [] [7,10] [(7,U (bE (jL+bq.1)))]<|cB [(0,ax (fk bF dX))] [21] [(21,U ((au+1:Nat):Int))]<|ck (bE (jL+bq.1)) hm
 rintro au jL eX er hm;rw[eO]at hm;refine aH [] [] [(22,.d ((au:Int)<en.Links.length))]<|A.seq<|bx (fB er)<|A.exit<|aO [] [(4,U jL),(5,U 0)] [] ?_
 cases hm;exact A.ret bG
end
section
open Go Go.Proofs.Tryz List
set_option maxRecDepth 100000
set_option linter.all false
def abz{gO:fI}{root:Int}{dP:cN}{r:Int}(hm:Gw gO root dP=some r):dn prog 68 [] [av (fo az) gO,U root,av az dP] (U r):=by
 refine dE func68 rfl rfl ?_;unfold Gw at hm;refine aO [] [(0,av (fo az) gO),(1,U root),(2,av az dP)] []<|aH [(1,ax (cb (fo az) gO))] [] [(7,U gO.length)] ?_
 obtain⟨h1,hm⟩:=mD hm;obtain⟨D,hm⟩:=mD hm;refine c0 [(1,ax (cb az dP)),(3,.sh (IntKind.wrap .u64 (dP.length:Int)) (of_decide_eq_true h1)),(4,PK 68024 (IntKind.wrap .i64 ((1:Int)*2 ^ min (IntKind.wrap .u64 (dP.length:Int)).toNat 64)) Nx Ny D (by decide))] [] [(8,.own 68024)] [] [(68024,.slice 22 1 (List.replicate (IntKind.wrap .i64 ((1:Int)*2 ^ min (IntKind.wrap .u64 (dP.length:Int)).toNat 64)).toNat [.dh]) 0 false)]<|axB ((ayl (d:=68024) (e:=450068024) 3 1 az.enc (NS D) rfl rfl rfl rfl rfl))<|A.seq<|aO [(1,pK 3 1 az.enc (List.replicate (IntKind.wrap .i64 ((1:Int)*2 ^ min (IntKind.wrap .u64 (dP.length:Int)).toNat 64)).toNat []:fI) nR)] [(0,av (fo az) gO),(1,U root),(2,av az dP),(7,U gO.length),(8,.own 68024),(26,U ((List.replicate (IntKind.wrap .i64 ((1:Int)*2 ^ min (IntKind.wrap .u64 (dP.length:Int)).toNat 64)).toNat []:fI).length:Int)),(27,U 0)] [(68024,.e5 22 450068024 ((IntKind.wrap .i64 ((1:Int)*2 ^ min (IntKind.wrap .u64 (dP.length:Int)).toNat 64)).toNat) none),(450068024,.cO (encS 3 1 az.enc (List.replicate (IntKind.wrap .i64 ((1:Int)*2 ^ min (IntKind.wrap .u64 (dP.length:Int)).toNat 64)).toNat []:fI)))]<|A.block ?_
 obtain⟨Pw,hm⟩:=mD hm;obtain⟨eT,eU,eW,eO,hm⟩:=yP hm;refine axY (hi:=((List.replicate (IntKind.wrap .i64 ((1:Int)*2 ^ min (IntKind.wrap .u64 (dP.length:Int)).toNat 64)).toNat []:fI).length:Int)) (B:=eT) (K:=eU) hm rfl (λau=>λbJ=>[(0,av (fo az) gO),(1,U root),(2,av az dP),(7,U gO.length),(8,.own 68024),(26,U ((List.replicate (IntKind.wrap .i64 ((1:Int)*2 ^ min (IntKind.wrap .u64 (dP.length:Int)).toNat 64)).toNat []:fI).length:Int)),(27,U au)]) (λau=>λbJ=>[(68024,.e5 22 450068024 ((IntKind.wrap .i64 ((1:Int)*2 ^ min (IntKind.wrap .u64 (dP.length:Int)).toNat 64)).toNat) none),(450068024,.cO (encS 3 1 az.enc bJ))]) ?_ ?_ ?_
 ·exact fm
 ·rintro au b3 bJ eX bF hm;rw[eW]at hm;refine aH [] [] [(28,.d ((au:Int)<((List.replicate (IntKind.wrap .i64 ((1:Int)*2 ^ min (IntKind.wrap .u64 (dP.length:Int)).toNat 64)).toNat []:fI).length:Int)))]<|A.seq<|axD rfl (decide_eq_true bF)<|A.skip<|A.seq<|A.block<|aH [] [28] [(9,U au)] ?_
  obtain⟨aj,hm⟩:=mD hm;obtain⟨cr,aV,hm⟩:=aU hm;refine c0 [(3,yC (a:=U 0) 68033 (0:Int) az.enc (gO.length:Int) Et Im rfl (λI=>by simp[bk]) aj (by decide)),(4,lW 3 1 az.enc nR aV),(5,PT 3 1 128 az.enc (List.replicate ((gO.length:Int)).toNat (0:Int)) nj aV)] [] [] [68024,450068024] [(68024,.e5 22 128 ((IntKind.wrap .i64 ((1:Int)*2 ^ min (IntKind.wrap .u64 (dP.length:Int)).toNat 64)).toNat) none),(128,.cO (encS 3 1 az.enc (List.set bJ (au:Int).toNat (List.replicate ((gO.length:Int)).toNat (0:Int)))))]<|A.seq ?_
  obtain⟨e6,b4,hm⟩:=aU hm;refine aH [(2,lW 3 1 az.enc nR b4),(3,rH (bl:=3) (sz:=1) (enc:=az.enc) (l:=(List.set bJ (au:Int).toNat (List.replicate ((gO.length:Int)).toNat (0:Int)))) b4 nj),(4,uS (bl:=3) (sz:=1) (enc:=az.enc) (l:=(List.set bJ (au:Int).toNat (List.replicate ((gO.length:Int)).toNat (0:Int)))) b4 qQ.ia)] [] [(39,U e6.length),(40,U 0)]<|A.block ?_
  obtain⟨Fv,hm⟩:=mD hm;obtain⟨jQ,iH,jZ,j0,hm⟩:=yP hm;refine axY (hi:=(e6.length:Int)) (B:=jQ) (K:=iH) hm rfl (λbN=>λc6=>[(0,av (fo az) gO),(1,U root),(2,av az dP),(7,U gO.length),(8,.own 68024),(9,U au),(26,U ((List.replicate (IntKind.wrap .i64 ((1:Int)*2 ^ min (IntKind.wrap .u64 (dP.length:Int)).toNat 64)).toNat []:fI).length:Int)),(27,U au),(39,U e6.length),(40,U bN)]) (λbN=>λc6=>[(68024,.e5 22 450068024 ((IntKind.wrap .i64 ((1:Int)*2 ^ min (IntKind.wrap .u64 (dP.length:Int)).toNat 64)).toNat) none),(450068024,.cO (encS 3 1 az.enc c6))]) ?_ ?_ ?_
  ·exact gM [.rn 128 450068024] []
  ·rintro bN gX c6 h6 eu hm;rw[jZ]at hm;refine aH [] [] [(41,.d ((bN:Int)<e6.length))]<|A.seq<|axD rfl (decide_eq_true eu)<|A.skip ?_
   obtain⟨dx,iu,hm⟩:=h2 hm;refine A.J (J:=dx) (r:=r) (λet=>[(0,av (fo az) gO),(1,U root),(2,av az dP),(7,U gO.length),(8,.own 68024),(9,U au),(26,U ((List.replicate (IntKind.wrap .i64 ((1:Int)*2 ^ min (IntKind.wrap .u64 (dP.length:Int)).toNat 64)).toNat []:fI).length:Int)),(27,U au),(39,U e6.length),(40,U bN)]) (λet=>[(68024,.e5 22 450068024 ((IntKind.wrap .i64 ((1:Int)*2 ^ min (IntKind.wrap .u64 (dP.length:Int)).toNat 64)).toNat) none),(450068024,.cO (encS 3 1 az.enc et))]) ?_ ?_
   ·refine A.block<|aH [] [41] [(10,U bN)] ?_
    obtain⟨ir,dz,hm⟩:=aU hm;obtain⟨lR,fz,hm⟩:=aU hm;refine c0 [(2,lW 3 1 az.enc nR dz),(3,rH (bl:=3) (sz:=1) (enc:=az.enc) (l:=c6) dz nj),(5,sC (bl:=3) (enc:=az.enc) (l:=c6) dz fz qQ),(6,oD (bl:=3) (enc:=az.enc) (f:=(W.int .i64)) (1099511627776:Int) dz fz (λ_=>rfl) rfl rfl hQ)] [] [] [450068024] [(450068024,.cO (encS 3 1 az.enc (List.set c6 (au:Int).toNat (List.set ir (bN:Int).toNat (1099511627776:Int)))))]<|aH [] [] [(50,.d ((au:Int)=(0:Int)))] ?_
    rcases bL hm with⟨aN,hm⟩|⟨aN,hm⟩
    ·refine bz aN ?_;obtain⟨j9,hv,hm⟩:=aU hm;obtain⟨p4,hc,hm⟩:=aU hm;exact hr [(2,lW 3 1 az.enc nR hv),(3,rH (bl:=3) (sz:=1) (enc:=az.enc) (l:=(List.set c6 (au:Int).toNat (List.set ir (bN:Int).toNat (1099511627776:Int)))) hv nj),(5,sC (bl:=3) (enc:=az.enc) (l:=(List.set c6 (au:Int).toNat (List.set ir (bN:Int).toNat (1099511627776:Int)))) hv hc qQ),(6,oD (bl:=3) (enc:=az.enc) (f:=(W.int .i64)) (0:Int) hv hc (λ_=>rfl) rfl rfl hQ)] [10,50] [] [450068024] [(450068024,.cO (encS 3 1 az.enc (List.set (List.set c6 (au:Int).toNat (List.set ir (bN:Int).toNat (1099511627776:Int))) (au:Int).toNat (List.set j9 (bN:Int).toNat (0:Int)))))]<|ck (List.set (List.set c6 (au:Int).toNat (List.set ir (bN:Int).toNat (1099511627776:Int))) (au:Int).toNat (List.set j9 (bN:Int).toNat (0:Int))) hm
    exact bx aN<|A.skip<|ck (List.set c6 (au:Int).toNat (List.set ir (bN:Int).toNat (1099511627776:Int))) hm
   rintro et hm;rw[iu]at hm;exact cB [(0,ax (zy (by omega) eu (of_decide_eq_true Fv)))] [40] [(40,U (bN+1:Int))]<|ck et hm
  rintro bN c6 h6 iR hm;rw[j0]at hm;refine aH [] [] [(41,.d ((bN:Int)<e6.length))]<|A.seq<|axA rfl (yl iR)<|A.exit<|A.seq<|aH [(1,ax (cb az dP))] [39,40,41] [(58,av az dP),(59,U dP.length),(60,U 0)]<|A.block<|axt 2 rfl λnJ=>?_
  obtain⟨nv,nw,nH,nI,hm⟩:=fF hm;refine axq (l:=dP) (e3:=0) (B:=nv) (K:=nw) hm (λdd=>λj5=>[(0,av (fo az) gO),(1,U root),(2,av az dP),(7,U gO.length),(8,.own 68024),(9,U au),(26,U ((List.replicate (IntKind.wrap .i64 ((1:Int)*2 ^ min (IntKind.wrap .u64 (dP.length:Int)).toNat 64)).toNat []:fI).length:Int)),(27,U au),(58,av az dP),(59,U dP.length),(60,U dd)]) (λdd=>λj5=>[(68024,.e5 22 450068024 ((IntKind.wrap .i64 ((1:Int)*2 ^ min (IntKind.wrap .u64 (dP.length:Int)).toNat 64)).toNat) none),(450068024,.cO (encS 3 1 az.enc j5))]) ?_ ?_ ?_
  ·exact fm
  ·rintro dd bT jc j5 ml h7 hm;rw[nH]at hm;refine aH [] [] [(61,.d ((dd:Int)<dP.length))]<|A.seq<|bz (fC h7)<|A.skip ?_
   obtain⟨gv,k4,hm⟩:=h2 hm;refine A.J (J:=gv) (r:=r) (λnr=>[(0,av (fo az) gO),(1,U root),(2,av az dP),(7,U gO.length),(8,.own 68024),(9,U au),(26,U ((List.replicate (IntKind.wrap .i64 ((1:Int)*2 ^ min (IntKind.wrap .u64 (dP.length:Int)).toNat 64)).toNat []:fI).length:Int)),(27,U au),(58,av az dP),(59,U dP.length),(60,U dd)]) (λnr=>[(68024,.e5 22 450068024 ((IntKind.wrap .i64 ((1:Int)*2 ^ min (IntKind.wrap .u64 (dP.length:Int)).toNat 64)).toNat) none),(450068024,.cO (encS 3 1 az.enc nr))]) ?_ ?_
   ·refine A.block<|aH [(1,b7 (ix az (eM h7)))] [61] [(11,U dd),(12,U bT)] ?_
    obtain⟨kC,hm⟩:=mD hm;refine aH [(3,.sh (IntKind.wrap .u64 (dd:Int)) (of_decide_eq_true kC))] [11] [(69,.d ((au:Int)=IntKind.wrap .i64 ((1:Int)*2 ^ min (IntKind.wrap .u64 (dd:Int)).toNat 64)))] ?_;rcases bL hm with⟨bw,hm⟩|⟨bw,hm⟩
    ·refine bz bw ?_;obtain⟨mj,m0,hm⟩:=aU hm;obtain⟨py,th,hm⟩:=aU hm;exact hr [(2,lW 3 1 az.enc nR m0),(3,rH (bl:=3) (sz:=1) (enc:=az.enc) (l:=j5) m0 nj),(5,sC (bl:=3) (enc:=az.enc) (l:=j5) m0 th qQ),(6,oD (bl:=3) (enc:=az.enc) (f:=(W.int .i64)) (0:Int) m0 th (λ_=>rfl) rfl rfl hQ)] [12,69] [] [450068024] [(450068024,.cO (encS 3 1 az.enc (List.set j5 (au:Int).toNat (List.set mj bT.toNat (0:Int)))))]<|ck (List.set j5 (au:Int).toNat (List.set mj bT.toNat (0:Int))) hm
    exact bx bw<|A.skip<|ck j5 hm
   rintro nr hm;rw[k4]at hm;exact cB [(0,ax (fk h7 nJ))] [60] [(60,U ((dd+1:Nat):Int))]<|ck nr hm
  rintro dd j5 ml jO hm;rw[nI]at hm;refine aH [] [] [(61,.d ((dd:Int)<dP.length))]<|A.seq<|bx (fB jO)<|A.exit<|A.seq<|aH [] [58,59,60,61] [(13,U 0)]<|A.block ?_
  obtain⟨LZ,aqa,O6,hm⟩:=n1 hm;refine axJ (F:=LZ) hm (λ(eL,qg)=>[(0,av (fo az) gO),(1,U root),(2,av az dP),(7,U gO.length),(8,.own 68024),(9,U au),(13,U eL),(26,U ((List.replicate (IntKind.wrap .i64 ((1:Int)*2 ^ min (IntKind.wrap .u64 (dP.length:Int)).toNat 64)).toNat []:fI).length:Int)),(27,U au)]) (λ(eL,qg)=>[(68024,.e5 22 450068024 ((IntKind.wrap .i64 ((1:Int)*2 ^ min (IntKind.wrap .u64 (dP.length:Int)).toNat 64)).toNat) none),(450068024,.cO (encS 3 1 az.enc qg))]) ?_ ?_
  ·exact fm
  rintro mb ⟨eL,qg⟩ hm;rw[O6]at hm;refine A.seq<|axy [(0,av (fo az) gO),(1,U root),(2,av az dP),(7,U gO.length),(8,.own 68024),(9,U au),(13,U eL),(26,U ((List.replicate (IntKind.wrap .i64 ((1:Int)*2 ^ min (IntKind.wrap .u64 (dP.length:Int)).toNat 64)).toNat []:fI).length:Int)),(27,U au),(83,.bool ((decide (eL<(gO.length:Int)))&&(decide (0<(au:Int)))))] [(68024,.e5 22 450068024 ((IntKind.wrap .i64 ((1:Int)*2 ^ min (IntKind.wrap .u64 (dP.length:Int)).toNat 64)).toNat) none),(450068024,.cO (encS 3 1 az.enc qg))] (λhk=>?_) ?_
  ·rcases kF (decide (eL<(gO.length:Int)))with cg|cg
   ·exact aO [(3,ax (b0 cg)),(6,ax (oH (q:=decide (0<(au:Int))) cg))] _ _ hk
   exact aO [(3,ax (b0 cg)),(6,ax (oI (q:=decide (0<(au:Int))) cg))] _ _ hk
  rcases bL hm with⟨dR,hm⟩|⟨dR,hm⟩
  ·refine bz dR<|A.skip<|A.seq<|A.block<|aH [] [83] [(14,U (kf .and .i64 (bE ((au:Int)-(1:Int))) (au:Int)))]<|A.block ?_
   obtain⟨Eb,ZA,Fj,hm⟩:=n1 hm;refine axJ (F:=Eb) hm (λ(u4,jK)=>[(0,av (fo az) gO),(1,U root),(2,av az dP),(7,U gO.length),(8,.own 68024),(9,U au),(13,U eL),(14,U u4),(26,U ((List.replicate (IntKind.wrap .i64 ((1:Int)*2 ^ min (IntKind.wrap .u64 (dP.length:Int)).toNat 64)).toNat []:fI).length:Int)),(27,U au)]) (λ(u4,jK)=>[(68024,.e5 22 450068024 ((IntKind.wrap .i64 ((1:Int)*2 ^ min (IntKind.wrap .u64 (dP.length:Int)).toNat 64)).toNat) none),(450068024,.cO (encS 3 1 az.enc jK))]) ?_ ?_
   ·exact fm
   rintro pq ⟨u4,jK⟩ hm;rw[Fj]at hm;refine A.seq<|aH [] [] [(91,.d (0<u4))] ?_
   rcases bL hm with⟨eV,hm⟩|⟨eV,hm⟩
   ·refine bz eV<|A.skip<|A.seq<|A.block ?_
    obtain⟨pz,ry,hm⟩:=aU hm;obtain⟨uh,uz,hm⟩:=aU hm;obtain⟨X8,uA,hm⟩:=aU hm;obtain⟨x0,uB,hm⟩:=aU hm;obtain⟨X9,ti,hm⟩:=aU hm;obtain⟨x1,Cq,hm⟩:=aU hm;exact hr [(2,lW 3 1 az.enc nR ry),(3,rH (bl:=3) (sz:=1) (enc:=az.enc) (l:=jK) ry nj),(7,lW 3 1 az.enc nR ry),(8,rH (bl:=3) (sz:=1) (enc:=az.enc) (l:=jK) ry nj),(10,sC (bl:=3) (enc:=az.enc) (l:=jK) ry uz qQ),(11,oC (bl:=3) (enc:=az.enc) (f:=(W.int .i64)) ry uz (λ_=>rfl) hQ),(14,lW 3 1 az.enc nR uA),(15,rH (bl:=3) (sz:=1) (enc:=az.enc) (l:=jK) uA nj),(17,sC (bl:=3) (enc:=az.enc) (l:=jK) uA uB qQ),(18,oC (bl:=3) (enc:=az.enc) (f:=(W.int .i64)) uA uB (λ_=>rfl) hQ),(23,lW 3 1 az.enc nR ti),(24,rH (bl:=3) (sz:=1) (enc:=az.enc) (l:=jK) ti nj),(26,sC (bl:=3) (enc:=az.enc) (l:=jK) ti Cq qQ),(27,oC (bl:=3) (enc:=az.enc) (f:=(W.int .i64)) ti Cq (λ_=>rfl) hQ),(30,sC (bl:=3) (enc:=az.enc) (l:=jK) ry uz qQ),(31,oD (bl:=3) (enc:=az.enc) (f:=(W.int .i64)) (if(bE (x0+x1))<uh then bE (x0+x1)else uh) ry uz (λ_=>rfl) rfl rfl hQ)] [91] [] [450068024] [(450068024,.cO (encS 3 1 az.enc (List.set jK (au:Int).toNat (List.set pz eL.toNat (if(bE (x0+x1))<uh then bE (x0+x1)else uh)))))]<|cB [] [14] [(14,U (kf .and .i64 (bE (u4-1)) (au:Int)))]<|ck (kf .and .i64 (bE (u4-1)) (au:Int),(List.set jK (au:Int).toNat (List.set pz eL.toNat (if(bE (x0+x1))<uh then bE (x0+x1)else uh)))) hm
   exact bx eV<|A.exit<|cB [] [13,14,91] [(13,U (bE (eL+1)))]<|ck (bE (eL+1),jK) hm
  refine bx dR<|A.exit<|aH [] [13,83] [(15,.d (0<(au:Int)))]<|A.block ?_
  obtain⟨abk,n6,anw,hm⟩:=n1 hm;refine axJ (F:=abk) hm (λ(sH,rO)=>[(0,av (fo az) gO),(1,U root),(2,av az dP),(7,U gO.length),(8,.own 68024),(9,U au),(15,.bool sH),(26,U ((List.replicate (IntKind.wrap .i64 ((1:Int)*2 ^ min (IntKind.wrap .u64 (dP.length:Int)).toNat 64)).toNat []:fI).length:Int)),(27,U au)]) (λ(sH,rO)=>[(68024,.e5 22 450068024 ((IntKind.wrap .i64 ((1:Int)*2 ^ min (IntKind.wrap .u64 (dP.length:Int)).toNat 64)).toNat) none),(450068024,.cO (encS 3 1 az.enc rO))]) ?_ ?_
  ·exact fm
  rintro p2 ⟨sH,rO⟩ hm;rw[anw]at hm;refine A.seq<|aH [] [] [(129,.bool sH)] ?_
  rcases bL hm with⟨gY,hm⟩|⟨gY,hm⟩
  ·refine bz gY<|A.skip<|A.block<|aH [] [15,129] [(15,.bool false)]<|aH [] [] [(16,U 0)]<|A.block<|axt 0 rfl λPk=>?_
   obtain⟨LY,L1,O3,Pb,hm⟩:=fF hm;refine axq (l:=gO) (e3:=0) (B:=LY) (K:=L1) hm (λl0=>λ(nC,qh)=>[(0,av (fo az) gO),(1,U root),(2,av az dP),(7,U gO.length),(8,.own 68024),(9,U au),(15,.bool nC),(16,U l0),(26,U ((List.replicate (IntKind.wrap .i64 ((1:Int)*2 ^ min (IntKind.wrap .u64 (dP.length:Int)).toNat 64)).toNat []:fI).length:Int)),(27,U au)]) (λl0=>λ(nC,qh)=>[(68024,.e5 22 450068024 ((IntKind.wrap .i64 ((1:Int)*2 ^ min (IntKind.wrap .u64 (dP.length:Int)).toNat 64)).toNat) none),(450068024,.cO (encS 3 1 az.enc qh))]) ?_ ?_ ?_
   ·exact fm
   ·rintro l0 jN BV ⟨nC,qh⟩ PA vR hm;rw[O3]at hm;refine A.seq<|aH [] [] [(132,.d ((l0:Int)<gO.length))] ?_
    refine bz (fC vR)<|A.skip<|A.seq<|A.block<|aH [] [132] [(17,U 0)]<|A.block<|axt 0 rfl λan1=>?_
    obtain⟨abc,abo,ans,anD,hm⟩:=fF hm;refine axq (l:=gO) (e3:=0) (B:=abc) (K:=abo) hm (λrL=>λ(oV,kA)=>[(0,av (fo az) gO),(1,U root),(2,av az dP),(7,U gO.length),(8,.own 68024),(9,U au),(15,.bool oV),(16,U l0),(17,U rL),(26,U ((List.replicate (IntKind.wrap .i64 ((1:Int)*2 ^ min (IntKind.wrap .u64 (dP.length:Int)).toNat 64)).toNat []:fI).length:Int)),(27,U au)]) (λrL=>λ(oV,kA)=>[(68024,.e5 22 450068024 ((IntKind.wrap .i64 ((1:Int)*2 ^ min (IntKind.wrap .u64 (dP.length:Int)).toNat 64)).toNat) none),(450068024,.cO (encS 3 1 az.enc kA))]) ?_ ?_ ?_
    ·exact fm
    ·rintro rL uw L6 ⟨oV,kA⟩ aoE Zj hm;rw[ans]at hm;refine A.seq<|aH [] [] [(137,.d ((rL:Int)<gO.length))] ?_
     refine bz (fC Zj)<|A.skip ?_
     obtain⟨kP,pF,hm⟩:=h2 hm;refine A.J (J:=kP) (r:=r) (λ(Dk,sW)=>[(0,av (fo az) gO),(1,U root),(2,av az dP),(7,U gO.length),(8,.own 68024),(9,U au),(15,.bool Dk),(16,U l0),(17,U rL),(26,U ((List.replicate (IntKind.wrap .i64 ((1:Int)*2 ^ min (IntKind.wrap .u64 (dP.length:Int)).toNat 64)).toNat []:fI).length:Int)),(27,U au)]) (λ(Dk,sW)=>[(68024,.e5 22 450068024 ((IntKind.wrap .i64 ((1:Int)*2 ^ min (IntKind.wrap .u64 (dP.length:Int)).toNat 64)).toNat) none),(450068024,.cO (encS 3 1 az.enc sW))]) ?_ ?_
     ·refine A.block ?_;obtain⟨k0,sq,hm⟩:=h2 hm;refine A.J (J:=k0) (r:=r) (λiz=>[(0,av (fo az) gO),(1,U root),(2,av az dP),(7,U gO.length),(8,.own 68024),(9,U au),(15,.bool oV),(16,U l0),(17,U rL),(26,U ((List.replicate (IntKind.wrap .i64 ((1:Int)*2 ^ min (IntKind.wrap .u64 (dP.length:Int)).toNat 64)).toNat []:fI).length:Int)),(27,U au),(172,.bool iz)]) (λiz=>[(68024,.e5 22 450068024 ((IntKind.wrap .i64 ((1:Int)*2 ^ min (IntKind.wrap .u64 (dP.length:Int)).toNat 64)).toNat) none),(450068024,.cO (encS 3 1 az.enc kA))]) ?_ ?_
      ·obtain⟨E0,uC,hm⟩:=aU hm;rcases bL hm with⟨i1,hm⟩|⟨i1,hm⟩
       ·obtain⟨Oi,qv,hm⟩:=aU hm;obtain⟨IF,uD,hm⟩:=aU hm;obtain⟨IG,w1,hm⟩:=aU hm;exact cB [(2,b7 (ix (fo az) (eM vR))),(5,b7 (ix az uC)),(8,ax (b0 i1)),(11,b7 (ix (fo az) (eM vR))),(14,b7 (ix az uC)),(18,lW 3 1 az.enc nR qv),(19,rH (bl:=3) (sz:=1) (enc:=az.enc) (l:=kA) qv nj),(21,sC (bl:=3) (enc:=az.enc) (l:=kA) qv uD qQ),(22,oC (bl:=3) (enc:=az.enc) (f:=(W.int .i64)) qv uD (λ_=>rfl) hQ),(26,lW 3 1 az.enc nR qv),(27,rH (bl:=3) (sz:=1) (enc:=az.enc) (l:=kA) qv nj),(29,sC (bl:=3) (enc:=az.enc) (l:=kA) qv w1 qQ),(30,oC (bl:=3) (enc:=az.enc) (f:=(W.int .i64)) qv w1 (λ_=>rfl) hQ)] [137] [(172,.d (bE (E0+IF)<IG))]<|ck (decide (bE (E0+IF)<IG)) hm
       exact cB [(2,b7 (ix (fo az) (eM vR))),(5,b7 (ix az uC)),(8,ax (b0 i1))] [137] [(172,.bool false)]<|ck false hm
      rintro iz hm;rw[sq]at hm;rcases bL hm with⟨me,hm⟩|⟨me,hm⟩
      ·refine bz me ?_;obtain⟨BZ,rz,hm⟩:=aU hm;obtain⟨EY,w2,hm⟩:=aU hm;obtain⟨EZ,yp,hm⟩:=aU hm;obtain⟨am1,Cr,hm⟩:=aU hm;exact hr [(2,lW 3 1 az.enc nR rz),(3,rH (bl:=3) (sz:=1) (enc:=az.enc) (l:=kA) rz nj),(7,b7 (ix (fo az) (eM vR))),(10,b7 (ix az w2)),(14,lW 3 1 az.enc nR rz),(15,rH (bl:=3) (sz:=1) (enc:=az.enc) (l:=kA) rz nj),(17,sC (bl:=3) (enc:=az.enc) (l:=kA) rz yp qQ),(18,oC (bl:=3) (enc:=az.enc) (f:=(W.int .i64)) rz yp (λ_=>rfl) hQ),(20,sC (bl:=3) (enc:=az.enc) (l:=kA) rz Cr qQ),(21,oD (bl:=3) (enc:=az.enc) (f:=(W.int .i64)) (bE (EY+EZ)) rz Cr (λ_=>rfl) rfl rfl hQ)] [15,172] [(15,.bool true)] [450068024] [(450068024,.cO (encS 3 1 az.enc (List.set kA (au:Int).toNat (List.set BZ (l0:Int).toNat (bE (EY+EZ))))))]<|ck (true,(List.set kA (au:Int).toNat (List.set BZ (l0:Int).toNat (bE (EY+EZ))))) hm
      exact bx me<|A.skip<|ck (oV,kA) hm
     rintro⟨Dk,sW⟩ hm;rw[pF]at hm;exact cB [(1,ax (fk Zj an1))] [17] [(17,U ((rL+1:Nat):Int))]<|ck (Dk,sW) hm
    rintro rL ⟨oV,kA⟩ aoE aoK hm;rw[anD]at hm;refine A.seq<|aH [] [] [(137,.d ((rL:Int)<gO.length))] ?_
    exact bx (fB aoK)<|A.exit<|cB [(1,ax (fk vR Pk))] [16,17,137] [(16,U ((l0+1:Nat):Int))]<|ck (oV,kA) hm
   rintro l0 ⟨nC,qh⟩ PA PF hm;rw[Pb]at hm;refine A.seq<|aH [] [] [(132,.d ((l0:Int)<gO.length))] ?_
   exact bx (fB PF)<|A.exit<|ck (nC,qh) hm
  exact bx gY<|A.exit<|cB [(0,ax (zy (by omega) bF (of_decide_eq_true Pw)))] [9,15,27,129] [(27,U (au+1:Int))]<|ck rO hm
 rintro au bJ eX er hm;rw[eO]at hm;refine aH [] [] [(28,.d ((au:Int)<((List.replicate (IntKind.wrap .i64 ((1:Int)*2 ^ min (IntKind.wrap .u64 (dP.length:Int)).toNat 64)).toNat []:fI).length:Int)))]<|A.seq<|axA rfl (yl er)<|A.exit<|axB (aym (d:=68024) (e:=450068024) bJ az.enc rfl rfl) ?_
 obtain⟨Ya,Cs,hm⟩:=aU hm;obtain⟨Oj,Fh,hm⟩:=aU hm;refine aO [(2,ax (cb (fo az) bJ)),(4,b7 (ix (fo az) Cs)),(5,lX 68024 0 (ix (fo az) Cs)),(7,b7 (ix az Fh))] [(6,U Oj)] [] ?_;cases hm;exact A.ret bG
end
end Go.Proofs.YtmnbolcmepihlaaGreat
namespace Go.Proofs.YtmnbolcmepihlaaGreat
set_option linter.all false
open Go Go.Proofs.Tryz List
def s0(s:Int×Int):W:=.agg [.int .i64 s.1,.int .i64 s.2]
def c1(m:List (Int×Int))(r:Int):Int:=(cH m r).getD 2305843009213693951
abbrev gA(a8:yO)(eZ:List (List W))(m1:List (Int×Int))(gB:List (List W))(m2:List (Int×(Int×Int))):ag:=
 [(22,.cells 165 [.bf false (aM fl a8),.own 106,.own 119]),(106,.ic 144 eZ 910000002),(910000002,.map 3 3 (fh .i64 (dB .i64) m1)),(119,.ic 166 gB 910000004),(910000004,.map 3 169 (fh .i64 s0 m2))]
def R4:∀w,∃v,(zeroValue 3).run prog w=.ok v w∧∀I,bk I (dB .i64 0) v:=λw=>⟨_,zeroValue3 w,λI=>by simp[bk,dB]⟩
variable {a8:yO}{eZ gB:List (List W)}{m1:List (Int×Int)}{m2:List (Int×(Int×Int))}
def H6(r:Int):dn prog 120 (gA a8 eZ m1 gB m2) [.ptr 22 0,.int .i64 (eZ.length:Int),.int .i64 r] (.int .i64 (c1 m1 r)):=by
 refine dE func120 rfl rfl ?_;refine axr cQ [] [] [(0,.ptr 22 0),(1,.int .i64 (eZ.length:Int)),(2,.int .i64 r)] (gA a8 eZ m1 gB m2) (by kernel_rfl) ?_;refine A.seq ?_;refine axr cQ [] [(5,FP (xs:=eZ) (i:=(eZ.length:Int)) Ej ⟨by omega,by omega⟩),(6,mJ (xs:=eZ) (p:=(eZ.length:Int).toNat) Ei (by omega)),(8,CD (lk (E:=3) (k:=.i64) (enc:=dB .i64) m1 r 0 R4))] [(7,.int .i64 ((cH m1 r).getD 0)),(8,.bool (cH m1 r).isSome)] (gA a8 eZ m1 gB m2) (by kernel_rfl) ?_;refine axr cQ [] [] [(7,.int .i64 ((cH m1 r).getD 0)),(21,.bool (cH m1 r).isSome)] (gA a8 eZ m1 gB m2) (by kernel_rfl) ?_;cases bQ:cH m1 r with
 |some c=>
  refine axD rfl rfl ?_;refine axr cQ [] [] [(6,.int .i64 c)] (gA a8 eZ m1 gB m2) (by kernel_rfl) ?_;refine A.ret ?_;have e:c1 m1 r=c:=by unfold c1;rw[bQ];rfl
  rw[e];exact axv cQ [] rfl (by kernel_rfl)
 |none=>
  refine axA rfl rfl ?_;refine A.skip ?_;show aF _ _ _ _ _;refine axr cQ [] [] [(6,.int .i64 2305843009213693951)] (gA a8 eZ m1 gB m2) (by kernel_rfl) ?_;refine A.ret ?_;have e:c1 m1 r=2305843009213693951:=by unfold c1;rw[bQ];rfl
  rw[e];exact axv cQ [] rfl (by kernel_rfl)
def UR{rows:List (List (Int×Int))}{s:Int}{m:List (Int×Int)}(r:Int)(Z:b2 rows s=some m):
  dn prog 120 (gA a8 (rows.map λm=>[.ec (fh .i64 (dB .i64) m)]) m1 gB m2) [.ptr 22 0,.int .i64 s,.int .i64 r] (.int .i64 (c1 m r)):=by
 obtain⟨bA,h1⟩:=(show 0≤s∧rows[s.toNat]?=some m by unfold b2 at Z;split at Z;exact⟨‹_›,Z⟩;cases Z);have cq:=(List.getElem?_eq_some_iff.1 h1).1;have jm:(rows.map λm=>[W.ec (fh .i64 (dB .i64) m)])[s.toNat]?=some [.ec (fh .i64 (dB .i64) m)]:=by rw[List.getElem?_map,h1];rfl
 have eH:0≤s∧s<((rows.map λm=>[W.ec (fh .i64 (dB .i64) m)]).length:Int)+1:=by rw[length_map];omega
 generalize AM:(rows.map λm=>[W.ec (fh .i64 (dB .i64) m)])=eZ at jm eH ⊢;refine dE func120 rfl rfl ?_;refine axr cQ [] [] [(0,.ptr 22 0),(1,.int .i64 s),(2,.int .i64 r)] (gA a8 eZ m1 gB m2) (by kernel_rfl) ?_;refine A.seq ?_;refine axr cQ [] [(5,FP (xs:=eZ) (i:=s) Ej eH),(6,Zn (xs:=eZ) (p:=s.toNat) Ei jm),(8,CB (k:=.i64) m r (dB .i64) 0 HW R4)] [(7,.int .i64 ((cH m r).getD 0)),(8,.bool (cH m r).isSome)] (gA a8 eZ m1 gB m2) (by kernel_rfl) ?_;refine axr cQ [] [] [(7,.int .i64 ((cH m r).getD 0)),(21,.bool (cH m r).isSome)] (gA a8 eZ m1 gB m2) (by kernel_rfl) ?_;cases bQ:cH m r with
 |some c=>
  refine axD rfl rfl ?_;refine axr cQ [] [] [(6,.int .i64 c)] (gA a8 eZ m1 gB m2) (by kernel_rfl) ?_;refine A.ret ?_;have e:c1 m r=c:=by unfold c1;rw[bQ];rfl
  rw[e];exact axv cQ [] rfl (by kernel_rfl)
 |none=>
  refine axA rfl rfl ?_;refine A.skip ?_;show aF _ _ _ _ _;refine axr cQ [] [] [(6,.int .i64 2305843009213693951)] (gA a8 eZ m1 gB m2) (by kernel_rfl) ?_;refine A.ret ?_;have e:c1 m r=2305843009213693951:=by unfold c1;rw[bQ];rfl
  rw[e];exact axv cQ [] rfl (by kernel_rfl)
def Mx(r c wg wB:Int)(ah:c1 m1 r≤c):
  gZ prog 119 (gA a8 eZ m1 gB m2) [.ptr 22 0,.int .i64 (eZ.length:Int),.int .i64 r,.int .i64 c,.agg [.int .i64 wg,.int .i64 wB]] (λa aL=>a=.bool false∧aL=gA a8 eZ m1 gB m2):=by
 refine dE func119 rfl rfl ?_;refine axr cQ [] [(0,.al 134)] [(0,.ptr 22 0),(1,.int .i64 (eZ.length:Int)),(2,.int .i64 r),(3,.int .i64 c)] (gA a8 eZ m1 gB m2) (by kernel_rfl) ?_;refine A.seq ?_;refine axr cQ [] [(4,bI (H6 (a8:=a8) (eZ:=eZ) (m1:=m1) (gB:=gB) (m2:=m2) r) BC)] [(16,.bool (decide (c1 m1 r≤c)))] (gA a8 eZ m1 gB m2) (by kernel_rfl) ?_;refine axD rfl (decide_eq_true ah) ?_;refine axr cQ [] [] [(10,.bool false)] (gA a8 eZ m1 gB m2) (by kernel_rfl) ?_;refine A.ret ?_;exact axv cQ [] rfl (by kernel_rfl)
def aaV:∀w,(zeroValue 169).run prog w=.ok (.agg #[.int .i64 0,.int .i64 0]) w:=λw=>zeroValue169 w
def aaW:∀I,bk I (s0 (0,0)) (.agg #[.int .i64 0,.int .i64 0]):=λI=>by
 simp only[s0,bk,cD];exact⟨_,rfl,_,_,rfl,rfl,_,_,rfl,rfl,rfl⟩
def My(r c wg wB:Int)(aP:gB.length=eZ.length)(ah:c<c1 m1 r):
  gZ prog 119 (gA a8 eZ m1 gB m2) [.ptr 22 0,.int .i64 (eZ.length:Int),.int .i64 r,.int .i64 c,.agg [.int .i64 wg,.int .i64 wB]] (λa aL=>a=.bool true∧aL=gA a8 eZ (eG m1 r c) gB (eG m2 r (wg,wB))):=by
 rw[←RW r ((cH m1 r).getD 0) c m1,←RW r ((cH m2 r).getD (0,0)) (wg,wB) m2];refine dE func119 rfl rfl ?_;refine axr cQ [] [(0,.al 134)] [(0,.ptr 22 0),(1,.int .i64 (eZ.length:Int)),(2,.int .i64 r),(3,.int .i64 c),(9,.ptr 134 0)] (gA a8 eZ m1 gB m2++[(134,.cells 169 [.int .i64 wg,.int .i64 wB])]) (by kernel_rfl) ?_;refine A.seq ?_;refine axr cQ [] [(4,bI (H6 (a8:=a8) (eZ:=eZ) (m1:=m1) (gB:=gB) (m2:=m2) r) BC)] [(0,.ptr 22 0),(1,.int .i64 (eZ.length:Int)),(2,.int .i64 r),(3,.int .i64 c),(9,.ptr 134 0),(16,.bool (decide (c1 m1 r≤c)))] (gA a8 eZ m1 gB m2++[(134,.cells 169 [.int .i64 wg,.int .i64 wB])]) (by kernel_rfl) ?_;refine axA rfl (decide_eq_false (by omega)) ?_;refine A.skip ?_;show aF _ _ _ _ _;refine ayi (d:=910000002) (K:=3) (E:=3) (bO:=fh .i64 (dB .i64) m1) rfl λCo ga=>?_;refine ayi (d:=910000004) (K:=3) (E:=169) (bO:=fh .i64 s0 m2) rfl λYq bV=>?_
 refine axr cQ [] [(5,FP (xs:=eZ) (i:=(eZ.length:Int)) Ej ⟨by omega,by omega⟩),(6,mJ (xs:=eZ) (p:=(eZ.length:Int).toNat) Ei (by omega)),(13,FP (xs:=gB) (i:=(eZ.length:Int)) VI ⟨by omega,by omega⟩),(14,mJ (xs:=gB) (p:=(eZ.length:Int).toNat) VJ (by omega)),
   (18,Y1 (k:=.i64) r m1 (dB .i64) 0 Co ga HW (λw=>zeroValue3 w) (λI=>by simp[bk,dB])),(20,kK (k:=.i64) (a0:=(cH m1 r).getD 0) r (.int .i64 0) (eG m1 r ((cH m1 r).getD 0)) (dB .i64) c Co ga (GY _ _ _) rfl),
   (21,Y1 (k:=.i64) r m2 s0 (0,0) Yq bV HB aaV aaW),(23,kK (k:=.i64) (a0:=(cH m2 r).getD (0,0)) r (.agg #[.int .i64 0,.int .i64 0]) (eG m2 r ((cH m2 r).getD (0,0))) s0 (wg,wB) Yq bV (GY _ _ _) rfl)]
  [] (gA a8 eZ (eG (eG m1 r ((cH m1 r).getD 0)) r c) gB (eG (eG m2 r ((cH m2 r).getD (0,0))) r (wg,wB))) (by kernel_rfl) ?_
 refine axr cQ [] [] [(10,.bool true)] (gA a8 eZ (eG (eG m1 r ((cH m1 r).getD 0)) r c) gB (eG (eG m2 r ((cH m2 r).getD (0,0))) r (wg,wB))) (by kernel_rfl) ?_;refine A.ret ?_;exact axv cQ [] rfl (by kernel_rfl)
end Go.Proofs.YtmnbolcmepihlaaGreat
namespace Go.Proofs.YtmnbolcmepihlaaGreat
set_option linter.all false
open Go Go.Proofs.Tryz List
def Ru{α:Type}{n x:Int}(v:α)(h:x≠n):∀l:List (Int×α),cH (eG l n v) x=cH l x
 |[]=>by
  have:¬n=x:=λe=>h e.symm;simp[eG,cH,this]
 |p::r=>by
  unfold eG;split
  ·rename_i aK;have:¬p.1=x:=λe=>h (by rw[←e,aK]);have D:¬n=x:=λe=>h e.symm;rw[Dg,Dg,if_neg this,if_neg D]
  ·rw[Dg,Dg,Ru v h r]
def xA(m:List (Int×Int))(r c x:Int):c1 (eG m r c) x=if x=r then c else c1 m x:=by
 unfold c1;split
 ·rename_i h;subst h;rw[GY];rfl
 ·rename_i h;rw[Ru _ h]
def rV(a8:yO)(m:List (Int×Int)):Nat:=(a8.map λa=>(c1 m a.Hop.bh).toNat).sum
def Nk{m l4:List (Int×Int)}(h:∀x,c1 l4 x≤c1 m x):∀a8:yO,rV a8 l4≤rV a8 m
 |[]=>Nat.le_refl _
 |a::r=>by
  have h1:=Nk h r;have D:=h a.Hop.bh;unfold rV at h1 ⊢;simp only[map_cons,sum_cons];omega
def US{m l4:List (Int×Int)}(h:∀x,c1 l4 x≤c1 m x){a:bW}(bA:0≤c1 l4 a.Hop.bh)(cq:c1 l4 a.Hop.bh<c1 m a.Hop.bh):∀{a8:yO},a∈a8→rV a8 l4<rV a8 m
 |[],aI=>by cases aI
 |b::r,aI=>by
  have D:=h b.Hop.bh;rcases mem_cons.1 aI with rfl|aI
  ·have h1:=Nk h r;unfold rV at h1 ⊢;simp only[map_cons,sum_cons];omega
  ·have h1:=US h bA cq aI;unfold rV at h1 ⊢;simp only[map_cons,sum_cons];omega
def adZ{a8:yO}{eZ:List (List W)}{m1:List (Int×Int)}{gB:List (List W)}{m2:List (Int×(Int×Int))}(aP:gB.length=eZ.length)(J:List (Int×Int)→List (Int×(Int×Int))→Prop)(bA:J m1 m2)
  (Y:∀m1 m2,J m1 m2→∀r,0≤c1 m1 r∧c1 m1 r≤2305843009213693951) (aI:∀a∈a8,0≤a.hM∧a.hM≤1000000)
  (iW:∀m1 m2 a,J m1 m2→a∈a8→a.hM+c1 m1 a.Hop.aS<c1 m1 a.Hop.bh→J (eG m1 a.Hop.bh (a.hM+c1 m1 a.Hop.aS)) (eG m2 a.Hop.bh (a.Hop.aS,0))) :
  gZ prog 121 (gA a8 eZ m1 gB m2) [.ptr 22 0,.int .i64 (eZ.length:Int)] (λa aL=>a=.dm []∧∃iE jC,J iE jC∧(∀a∈a8,c1 iE a.Hop.bh≤a.hM+c1 iE a.Hop.aS)∧aL=gA a8 eZ iE gB jC):=by
 refine dE func121 rfl rfl ?_;refine axr cQ [] [] [(0,.ptr 22 0),(1,.int .i64 (eZ.length:Int)),(4,.bool true)] (gA a8 eZ m1 gB m2) (by kernel_rfl) ?_;refine A.block ?_;refine A.loop (α:=List (Int×Int)×List (Int×(Int×Int))×Bool) (λg=>[(0,.ptr 22 0),(1,.int .i64 (eZ.length:Int)),(4,.bool g.2.2)]) (λg=>gA a8 eZ g.1 gB g.2.1) (λg=>J g.1 g.2.1∧(g.2.2=false→∀a∈a8,c1 g.1 a.Hop.bh≤a.hM+c1 g.1 a.Hop.aS)) (λg=>rV a8 g.1+(bif g.2.2 then 1 else 0)) (m1,m2,true) ⟨bA,λh=>by cases h⟩ (dr.go [] [] (by kernel_rfl)) ?_;rintro⟨kO,kY,ou⟩ ⟨cF,Z⟩;simp only at cF Z;refine A.seq ?_;refine axr cQ [] [] [(0,.ptr 22 0),(1,.int .i64 (eZ.length:Int)),(4,.bool ou),(7,.bool ou)] (gA a8 eZ kO gB kY) (by kernel_rfl) ?_;cases ou with
 |false=>
  refine axA rfl rfl ?_;refine A.exit ?_;refine sO.mono (axv cQ [] (R:=.dm []) (σ2:=gA a8 eZ kO gB kY) rfl (by kernel_rfl)) ?_;rintro a s ⟨rfl,rfl⟩;exact⟨rfl,kO,kY,cF,Z rfl,rfl⟩
 |true=>
  refine axD rfl rfl ?_;refine A.skip ?_;show aF _ _ _ _ _;refine A.block ?_;refine axr cQ [] [] [(0,.ptr 22 0),(1,.int .i64 (eZ.length:Int)),(4,.bool false)] (gA a8 eZ kO gB kY) (by kernel_rfl) ?_;refine axr cQ [] [(4,ax (cb fl a8))] [(0,.ptr 22 0),(1,.int .i64 (eZ.length:Int)),(4,.bool false),(11,.bf false (aM fl a8)),(12,.int .i64 (a8.length:Int)),(13,.int .i64 0)] (gA a8 eZ kO gB kY) (by kernel_rfl) ?_;refine A.block ?_;refine axt 11 rfl λJo=>?_
  refine A.loop (α:=Nat×List (Int×Int)×List (Int×(Int×Int))×Bool) (λg=>[(0,.ptr 22 0),(1,.int .i64 (eZ.length:Int)),(4,.bool g.2.2.2),(11,.bf false (aM fl a8)),(12,.int .i64 (a8.length:Int)),(13,.int .i64 (g.1:Int))]) (λg=>gA a8 eZ g.2.1 gB g.2.2.1)
   (λg=>g.1≤a8.length∧J g.2.1 g.2.2.1∧(g.2.2.2=false→(g.2.1=kO∧g.2.2.1=kY)∧∀i a,i<g.1→a8[i]?=some a→c1 kO a.Hop.bh≤a.hM+c1 kO a.Hop.aS)∧(g.2.2.2=true→rV a8 g.2.1<rV a8 kO)∧∀x,c1 g.2.1 x≤c1 kO x) (λg=>a8.length-g.1) (0,kO,kY,false) ⟨Nat.zero_le _,cF,λ_=>⟨⟨rfl,rfl⟩,λi a hi=>by omega⟩,λh=>(by cases h),λx=>Int.le_refl _⟩ (dr.go [] [] (by kernel_rfl)) ?_
  rintro⟨j,g2,iP,ou⟩ ⟨aY,ai,be,ak,hle⟩;simp only at aY ai be ak hle;refine axr cQ [] [] [(0,.ptr 22 0),(1,.int .i64 (eZ.length:Int)),(4,.bool ou),(11,.bf false (aM fl a8)),(12,.int .i64 (a8.length:Int)),(13,.int .i64 (j:Int)),(14,.bool (decide ((j:Int)<(a8.length:Int))))] (gA a8 eZ g2 gB iP) (by kernel_rfl) ?_;refine A.seq ?_;by_cases p8:j<a8.length
  ·have u:a8[j]?=some a8[j]:=List.getElem?_eq_getElem p8;generalize a8[j]=e at u;have Pq:e∈a8:=List.mem_of_getElem? u;obtain⟨mc,aN⟩:=aI e Pq;obtain⟨oq,dI⟩:=Y g2 iP ai e.Hop.aS;have aA:bE (e.hM+c1 g2 e.Hop.aS)=e.hM+c1 g2 e.Hop.aS:=g4 (by omega) (by omega);refine axD rfl (fC u) ?_;refine A.skip ?_;show aF _ _ _ _ _;refine A.seq ?_;refine A.block ?_;refine axr cQ [] [(0,b7 (ix fl (eM u))),(2,.al 217)] [(0,.ptr 22 0),(1,.int .i64 (eZ.length:Int)),(4,.bool ou),(11,.bf false (aM fl a8)),(12,.int .i64 (a8.length:Int)),(13,.int .i64 (j:Int)),(6,.ptr 217 0)] (gA a8 eZ g2 gB iP++[(217,.cells 175 [.int .i64 e.Hop.bh,.int .i64 e.Hop.aS,.int .i64 e.hM])]) (by kernel_rfl) ?_;by_cases cq:e.hM+c1 g2 e.Hop.aS<c1 g2 e.Hop.bh
   ·refine axr cQ [] [(12,bI (H6 (a8:=a8) (eZ:=eZ) (m1:=g2) (gB:=gB) (m2:=iP) e.Hop.aS) BC),(13,ax (show W.int .i64 (bE (e.hM+c1 g2 e.Hop.aS))=W.int .i64 (e.hM+c1 g2 e.Hop.aS)by rw[aA])),(18,gW [] (My (a8:=a8) (m1:=g2) (m2:=iP) e.Hop.bh (e.hM+c1 g2 e.Hop.aS) e.Hop.aS 0 aP cq) DV)] [(0,.ptr 22 0),(1,.int .i64 (eZ.length:Int)),(11,.bf false (aM fl a8)),(12,.int .i64 (a8.length:Int)),(13,.int .i64 (j:Int)),(35,.bool true)] (gA a8 eZ (eG g2 e.Hop.bh (e.hM+c1 g2 e.Hop.aS)) gB (eG iP e.Hop.bh (e.Hop.aS,0))) (by kernel_rfl) ?_;refine axD rfl rfl ?_;refine A.R cQ [] [] [(0,.ptr 22 0),(1,.int .i64 (eZ.length:Int)),(4,.bool true),(11,.bf false (aM fl a8)),(12,.int .i64 (a8.length:Int)),(13,.int .i64 (j:Int))] (gA a8 eZ (eG g2 e.Hop.bh (e.hM+c1 g2 e.Hop.aS)) gB (eG iP e.Hop.bh (e.Hop.aS,0))) (by kernel_rfl) ?_;show aF _ _ _ _ _;refine A.R cQ [] [(0,ax (fk u Jo))] [(0,.ptr 22 0),(1,.int .i64 (eZ.length:Int)),(4,.bool true),(11,.bf false (aM fl a8)),(12,.int .i64 (a8.length:Int)),(13,.int .i64 ((j+1:Nat):Int))] (gA a8 eZ (eG g2 e.Hop.bh (e.hM+c1 g2 e.Hop.aS)) gB (eG iP e.Hop.bh (e.Hop.aS,0))) (by kernel_rfl) ?_;have YA:=iW g2 iP e ai Pq cq
    have YV:∀x,c1 (eG g2 e.Hop.bh (e.hM+c1 g2 e.Hop.aS)) x≤c1 g2 x:=λx=>by
     rw[xA];split
     ·rename_i h;subst h;omega
     ·omega
    have aoX:rV a8 (eG g2 e.Hop.bh (e.hM+c1 g2 e.Hop.aS))<rV a8 g2:=US YV (Y _ _ YA _).1 (by rw[xA,if_pos rfl];exact cq) Pq;have aoY:rV a8 g2≤rV a8 kO:=Nk hle a8;refine⟨(j+1,eG g2 e.Hop.bh (e.hM+c1 g2 e.Hop.aS),eG iP e.Hop.bh (e.Hop.aS,0),true),⟨p8,YA,λh=>(by cases h),λ_=>Nat.lt_of_lt_of_le aoX aoY,λx=>Int.le_trans (YV x) (hle x)⟩,by simp only;omega,dr.go [] [] (by kernel_rfl)⟩
   ·refine axr cQ [] [(12,bI (H6 (a8:=a8) (eZ:=eZ) (m1:=g2) (gB:=gB) (m2:=iP) e.Hop.aS) BC),(13,ax (show W.int .i64 (bE (e.hM+c1 g2 e.Hop.aS))=W.int .i64 (e.hM+c1 g2 e.Hop.aS)by rw[aA])),(18,gW [] (Mx (a8:=a8) (eZ:=eZ) (m1:=g2) (gB:=gB) (m2:=iP) e.Hop.bh (e.hM+c1 g2 e.Hop.aS) e.Hop.aS 0 (Int.not_lt.1 cq)) DV)] [(0,.ptr 22 0),(1,.int .i64 (eZ.length:Int)),(4,.bool ou),(11,.bf false (aM fl a8)),(12,.int .i64 (a8.length:Int)),(13,.int .i64 (j:Int)),(35,.bool false)] (gA a8 eZ g2 gB iP) (by kernel_rfl) ?_;refine axA rfl rfl ?_;refine A.skip ?_;show aF _ _ _ _ _;refine A.R cQ [] [(0,ax (fk u Jo))] [(0,.ptr 22 0),(1,.int .i64 (eZ.length:Int)),(4,.bool ou),(11,.bf false (aM fl a8)),(12,.int .i64 (a8.length:Int)),(13,.int .i64 ((j+1:Nat):Int))] (gA a8 eZ g2 gB iP) (by kernel_rfl) ?_;refine⟨(j+1,g2,iP,ou),⟨p8,ai,λh=>⟨(be h).1,λi a hi Fw=>?_⟩,ak,hle⟩,by simp only;omega,dr.go [] [] (by kernel_rfl)⟩;rcases Nat.lt_or_eq_of_le (Nat.le_of_lt_succ hi)with hi|hi
    ·exact(be h).2 i a hi Fw
    ·subst hi;rw[u]at Fw;cases Fw;have:=(be h).1.1;rw[←this];omega
  ·refine axA rfl (fB (by omega)) ?_;refine A.exit ?_;refine⟨(g2,iP,ou),⟨ai,λh a anV=>?_⟩,?_,dr.go [] [] (by kernel_rfl)⟩
   ·obtain⟨⟨e1,e2⟩,aj⟩:=be h;obtain⟨i,hi⟩:=List.getElem?_of_mem anV;rw[e1];exact aj i a (by have:=(List.getElem?_eq_some_iff.1 hi).1;omega) hi
   ·cases ou with
    |true=>have:=ak rfl;simp only[cond_true];omega
    |false=>
     have:=(be rfl).1.1;rw[this];simp only[cond_false,cond_true];omega
end Go.Proofs.YtmnbolcmepihlaaGreat
namespace Go.Proofs.YtmnbolcmepihlaaGreat
set_option linter.all false
open Go Go.Proofs.Tryz List
def gH:jD (List (Int×Int)):=⟨λm=>[.ec (fh .i64 (dB .i64) m)],1,λ_=>rfl,λ_=>rfl,λ_=>rfl⟩
def gQ:jD (List (Int×(Int×Int))):=⟨λm=>[.ec (fh .i64 s0 m)],1,λ_=>rfl,λ_=>rfl,λ_=>rfl⟩
abbrev nX(o:Nat)(l:Es):ag:=[(73,.cells 34 [.own o]),(o,.slice 84 2 (aM bH l) 0 false)]
def adK{α:Type}{l r:List α}(h:l.length+r.length≤549755813888):jf l r=some (l++r):=by unfold jf;rw[if_pos (by unfold aT;exact h)]
def adL{l:Es}(h:aQ)(aP:l.length+1≤549755813888):
  gZ prog 123 (nX 910000011 l) [.agg [.int .i64 h.bh,.int .i64 h.aS],.ptr 73 0] (λa aL=>a=.dm []∧aL=nX 910000012 (l++[h])):=by
 have anX:jf l ([h]:Es)=some (l++[h]):=adK aP;refine dE func123 rfl rfl ?_;refine axr cQ [] [(0,.al 218)] [(1,.ptr 73 0),(2,.ptr 218 0)] (nX 910000011 l++[(218,.cells 84 [.int .i64 h.bh,.int .i64 h.aS])]) (by kernel_rfl) ?_;refine A.R cQ [] [(3,m4 910000014 (ap bH (bytes:=16) (by decide) anX))] [] (nX 910000014 (l++[h])) (by kernel_rfl) ?_;exact axv cQ [.ja 910000014 910000012] rfl (by kernel_rfl)
inductive p1(fM:List (List (Int×(Int×Int)))):Int→Int→List aQ→Prop
 |leaf {s r:Int} {m:List (Int×(Int×Int))} (h:b2 fM s=some m) (be:(cH m r).getD (0,0)=(0,0)):p1 fM s r []
 |next {s r:Int} {m:List (Int×(Int×Int))} {x:Int×Int} {H:Es} (h:b2 fM s=some m) (u:(cH m r).getD (0,0)=x) (be:x.1≠0) (ah:p1 fM s x.1 H):p1 fM s r (aQ.mk r x.1::H)
 |part {s r:Int} {m:List (Int×(Int×Int))} {x:Int×Int} {H K:Es} {e8:Int} (h:b2 fM s=some m) (u:(cH m r).getD (0,0)=x) (h1:x.1=0) (be:x.2≠0) (D:e8=kf .andNot .i64 s x.2) (ah:p1 fM x.2 r H) (hk:p1 fM e8 r K):p1 fM s r (H++K)
def R5:∀w,∃v,(zeroValue 169).run prog w=.ok v w∧∀I,bk I (s0 (0,0)) v:=λw=>⟨_,aaV w,aaW⟩
def acn{a8:yO}{xJ:List (List (Int×Int))}{fM:List (List (Int×(Int×Int)))}{s r:Int}{H:Es}(mF:p1 fM s r H):∀{l:Es},l.length+H.length≤549755813888→
  gZ prog 122 (nX 910000011 l) [.gP [.bf false (aM fl a8),.bf false (aM gH xJ),.bf false (aM gQ fM)],.int .i64 s,.int .i64 r,.fn 123 [.ptr 73 0]] (λa aL=>a=.dm []∧aL=nX 910000012 (l++H)):=by
 induction mF with
 |@leaf s r m h be=>
  intro l _;rw[append_nil];refine dE func122 rfl rfl ?_;refine axr cQ [] [(5,b7 (ix gQ h)),(8,CB (k:=.i64) m r s0 (0,0) HB R5),(9,.al 63)] [(8,.ptr 63 0)] (nX 910000011 l++[(63,.cells 169 [.int .i64 ((cH m r).getD (0,0)).1,.int .i64 ((cH m r).getD (0,0)).2])]) (by kernel_rfl) ?_;refine A.block ?_;refine axr cQ [] [] [(8,.ptr 63 0),(18,.bool (!decide (((cH m r).getD (0,0)).1=(0:Int))))] (nX 910000011 l++[(63,.cells 169 [.int .i64 ((cH m r).getD (0,0)).1,.int .i64 ((cH m r).getD (0,0)).2])]) (by kernel_rfl) ?_;refine axA rfl (by rw[be];rfl) ?_;refine axr cQ [] [] [(34,.bool (!decide (((cH m r).getD (0,0)).2=(0:Int))))] (nX 910000011 l) (by kernel_rfl) ?_;refine axA rfl (by rw[be];rfl) ?_;refine A.skip ?_;exact axv cQ [.rn 910000011 910000012] rfl (by kernel_rfl)
 |@next s r m x H h u be ah bX=>
  intro l aP;subst u;simp only[length_cons]at aP;rw[show l++(aQ.mk r ((cH m r).getD (0,0)).1::H)=(l++[aQ.mk r ((cH m r).getD (0,0)).1])++H by simp];have apE:=@bX (l++[aQ.mk r ((cH m r).getD (0,0)).1]) (by simp;omega);refine dE func122 rfl rfl ?_;refine axr cQ [] [(5,b7 (ix gQ h)),(8,CB (k:=.i64) m r s0 (0,0) HB R5),(9,.al 63)] [(0,.gP [.bf false (aM fl a8),.bf false (aM gH xJ),.bf false (aM gQ fM)]),(1,.int .i64 s),(2,.int .i64 r),(3,.fn 123 [.ptr 73 0]),(8,.ptr 63 0)] (nX 910000011 l++[(63,.cells 169 [.int .i64 ((cH m r).getD (0,0)).1,.int .i64 ((cH m r).getD (0,0)).2])]) (by kernel_rfl) ?_;refine A.block ?_;refine axr cQ [] [] [(0,.gP [.bf false (aM fl a8),.bf false (aM gH xJ),.bf false (aM gQ fM)]),(1,.int .i64 s),(2,.int .i64 r),(3,.fn 123 [.ptr 73 0]),(8,.ptr 63 0),(18,.bool (!decide (((cH m r).getD (0,0)).1=(0:Int))))] (nX 910000011 l++[(63,.cells 169 [.int .i64 ((cH m r).getD (0,0)).1,.int .i64 ((cH m r).getD (0,0)).2])]) (by kernel_rfl) ?_;refine axD rfl (by simp[be]) ?_;refine axr cQ [] [(5,gW [910000012] (adL (l:=l) (aQ.mk r ((cH m r).getD (0,0)).1) (by omega)) alS)] [(0,.gP [.bf false (aM fl a8),.bf false (aM gH xJ),.bf false (aM gQ fM)]),(1,.int .i64 s),(3,.fn 123 [.ptr 73 0]),(8,.ptr 63 0)] (nX 910000012 (l++[aQ.mk r ((cH m r).getD (0,0)).1])++[(63,.cells 169 [.int .i64 ((cH m r).getD (0,0)).1,.int .i64 ((cH m r).getD (0,0)).2])]) (by kernel_rfl) ?_;refine A.R cQ [] [(5,gW [910000017] (sg.at [(910000011,910000012),(910000012,910000017)] apE) Is)] [] (nX 910000017 ((l++[aQ.mk r ((cH m r).getD (0,0)).1])++H)) (by kernel_rfl) ?_;exact axv cQ [.ja 910000017 910000012] rfl (by kernel_rfl)
 |@part s r m x H K e8 h u h1 be D ah hk Qc F5=>
  intro l aP;subst u;subst D;rw[length_append]at aP;rw[show l++(H++K)=(l++H)++K by simp];have apF:=@Qc l (by omega);have apG:=@F5 (l++H) (by simp;omega);refine dE func122 rfl rfl ?_;refine axr cQ [] [(5,b7 (ix gQ h)),(8,CB (k:=.i64) m r s0 (0,0) HB R5),(9,.al 63)] [(0,.gP [.bf false (aM fl a8),.bf false (aM gH xJ),.bf false (aM gQ fM)]),(1,.int .i64 s),(2,.int .i64 r),(3,.fn 123 [.ptr 73 0]),(8,.ptr 63 0)] (nX 910000011 l++[(63,.cells 169 [.int .i64 ((cH m r).getD (0,0)).1,.int .i64 ((cH m r).getD (0,0)).2])]) (by kernel_rfl) ?_;refine A.block ?_;refine axr cQ [] [] [(0,.gP [.bf false (aM fl a8),.bf false (aM gH xJ),.bf false (aM gQ fM)]),(1,.int .i64 s),(2,.int .i64 r),(3,.fn 123 [.ptr 73 0]),(8,.ptr 63 0),(18,.bool (!decide (((cH m r).getD (0,0)).1=(0:Int))))] (nX 910000011 l++[(63,.cells 169 [.int .i64 ((cH m r).getD (0,0)).1,.int .i64 ((cH m r).getD (0,0)).2])]) (by kernel_rfl) ?_;refine axA rfl (by simp[h1]) ?_;refine axr cQ [] [] [(0,.gP [.bf false (aM fl a8),.bf false (aM gH xJ),.bf false (aM gQ fM)]),(1,.int .i64 s),(2,.int .i64 r),(3,.fn 123 [.ptr 73 0]),(8,.ptr 63 0),(34,.bool (!decide (((cH m r).getD (0,0)).2=(0:Int))))] (nX 910000011 l++[(63,.cells 169 [.int .i64 ((cH m r).getD (0,0)).1,.int .i64 ((cH m r).getD (0,0)).2])]) (by kernel_rfl) ?_;refine axD rfl (by simp[be]) ?_;refine axr cQ [] [(5,gW [910000012] apF Is)] [(0,.gP [.bf false (aM fl a8),.bf false (aM gH xJ),.bf false (aM gQ fM)]),(1,.int .i64 s),(2,.int .i64 r),(3,.fn 123 [.ptr 73 0]),(8,.ptr 63 0)] (nX 910000012 (l++H)++[(63,.cells 169 [.int .i64 ((cH m r).getD (0,0)).1,.int .i64 ((cH m r).getD (0,0)).2])]) (by kernel_rfl) ?_;refine A.R cQ [] [(7,gW [910000017] (sg.at [(910000011,910000012),(910000012,910000017)] apG) Is)] [] (nX 910000017 ((l++H)++K)) (by kernel_rfl) ?_;exact axv cQ [.ja 910000017 910000012] rfl (by kernel_rfl)
end Go.Proofs.YtmnbolcmepihlaaGreat
namespace Go.Proofs.YtmnbolcmepihlaaGreat
set_option linter.all false
open Go List
def jA(a b:Nat):Nat:=(BitVec.ofNat 64 a &&& ~~~ BitVec.ofNat 64 b).toNat
variable {a b:Nat}
def Lu(aI:a<2 ^ 60)(Y:b<2 ^ 60)(i:Nat):(jA a b).testBit i=(a.testBit i&&!b.testBit i):=by
 unfold jA;rw[BitVec.toNat_and,Nat.testBit_and,BitVec.toNat_ofNat,Nat.mod_eq_of_lt (by omega)];by_cases hi:i<64
 ·congr 1;rw[←BitVec.getLsbD,BitVec.getLsbD_not,BitVec.getLsbD_ofNat];simp[hi]
 ·have:a.testBit i=false:=Nat.testBit_lt_two_pow (Nat.lt_of_lt_of_le aI (Nat.pow_le_pow_right (by omega) (by omega)));rw[this];rfl
def Mz(aI:a<2 ^ 60):jA a b≤a:=by
 unfold jA;rw[BitVec.toNat_and,BitVec.toNat_ofNat,Nat.mod_eq_of_lt (by omega)];exact Nat.and_le_left
def Lw(aI:a<2 ^ 60)(Y:b<2 ^ 60):kf .and .i64 (a:Int) (b:Int)=((a &&& b:Nat):Int):=by
 have h1:(a &&& b)≤a:=Nat.and_le_left;show bE (((BitVec.ofInt 64 (a:Int) &&& BitVec.ofInt 64 (b:Int)).toNat:Nat):Int)=_;rw[BitVec.ofInt_natCast,BitVec.ofInt_natCast,BitVec.toNat_and,BitVec.toNat_ofNat,BitVec.toNat_ofNat,Nat.mod_eq_of_lt (by omega),Nat.mod_eq_of_lt (by omega)];exact g4 (by omega) (by omega)
def RY(aI:a<2 ^ 60):kf .andNot .i64 (a:Int) (b:Int)=((jA a b:Nat):Int):=by
 have h1:=Mz (a:=a) (b:=b) aI;show bE (((BitVec.ofInt 64 (a:Int) &&& ~~~ BitVec.ofInt 64 (b:Int)).toNat:Nat):Int)=_;rw[BitVec.ofInt_natCast,BitVec.ofInt_natCast];exact g4 (by show -9223372036854775808≤((jA a b:Nat):Int);omega) (by show((jA a b:Nat):Int)≤_;omega)
def Lx:∀(p S q:Nat),p &&& S=p→q &&& S=q→q<p→q≤(p-1) &&& S:=by
 intro p;induction p using Nat.strongRecOn with
 |_ p bX=>
  intro S q aK cA cq
  have d2:∀a b:Nat,(a &&& b) / 2=a / 2 &&& b / 2:=λa b=>by
   have:=Nat.and_div_two_pow (a:=a) (b:=b) (n:=1);simpa using this
  have m2:∀a b:Nat,(a &&& b)%2=(a%2) &&& (b%2):=λa b=>by
   have:=Nat.and_mod_two_pow (a:=a) (b:=b) (n:=1);simpa using this
  have xb:p / 2 &&& S / 2=p / 2:=by rw[←d2,aK]
  have FK:q / 2 &&& S / 2=q / 2:=by rw[←d2,cA]
  have ao6:(q%2) &&& (S%2)=q%2:=by rw[←m2,cA]
  have avA:(p%2) &&& (S%2)=p%2:=by rw[←m2,aK]
  have e2:=d2 (p-1) S;have bT:=m2 (p-1) S;rcases Nat.mod_two_eq_zero_or_one p with ao0|ao0
  ·have h1:(p-1) / 2=p / 2-1:=by omega
   have D:(p-1)%2=1:=by omega
   have aj:=bX (p / 2) (by omega) (S / 2) (q / 2) xb FK (by omega);rw[h1]at e2;rw[D]at bT;have aV:1 &&& (S%2)=S%2:=by rcases Nat.mod_two_eq_zero_or_one S with h|h<;>rw[h]<;>rfl
   rw[aV]at bT;have b4:q%2≤S%2:=by rw[←ao6];exact Nat.and_le_right
   omega
  ·have h1:(p-1) / 2=p / 2:=by omega
   rw[h1,xb]at e2;omega
variable {S:Nat}
def K7(p:Nat):(a &&& S) &&& S=a &&& S:=by
 rw[Nat.and_assoc,Nat.and_self]
def adM(i:Nat):2 ^ i &&& (2 ^ i-1)=0:=by
 apply Nat.eq_of_testBit_eq;intro j;rw[Nat.testBit_and,Nat.testBit_two_pow,Nat.testBit_two_pow_sub_one];by_cases h:i=j
 ·subst h;simp
 ·simp[h]
def g9(rows:List (List (Int×Int)))(S:Nat):List (Int×Int):=rows.getD S []
def y6(a8:yO)(ts:cN)(rows:List (List (Int×Int)))(S:Nat)(m:List (Int×Int))(v c:Int)(x:Int×Int):Prop:=
 (x.1≠0∧∃a∈a8,a.Hop.bh=v∧a.Hop.aS=x.1∧a.hM+c1 m x.1≤c)∨
 (x.1=0∧∃P:Nat,x.2=(P:Int)∧0<P∧P<S∧P &&& S=P∧c=c1 (g9 rows P) v+c1 (g9 rows (jA S P)) v∧c1 (g9 rows P) v<2305843009213693951∧c1 (g9 rows (jA S P)) v<2305843009213693951)∨
 (x=(0,0)∧∃i,ts[i]?=some v∧S=2 ^ i∧c=0)
variable {a8:yO}{l4 m:List (Int×Int)}{rows:List (List (Int×Int))}{ts:cN}{x:Int×Int}
def y6.mono{v c:Int}(h:y6 a8 ts rows S m v c x)(hle:∀r,c1 l4 r≤c1 m r):y6 a8 ts rows S l4 v c x:=by
 rcases h with⟨h1,a,D,aj,aV,b4⟩|h|h
 ·have:=hle x.1;exact .inl ⟨h1,a,D,aj,aV,by omega⟩
 ·exact .inr (.inl h)
 ·exact .inr (.inr h)
def SJ{α:Type}(n:Int)(v:α):∀l:List (Int×α),(eG l n v).map (·.1)=if n∈l.map (·.1)then l.map (·.1)else l.map (·.1)++[n]
 |[]=>by simp[eG]
 |p::r=>by
  unfold eG;by_cases aK:p.1=n
  ·simp[aK]
  ·have be:¬n=p.1:=λe=>aK e.symm;rw[if_neg aK,map_cons,SJ n v r];simp only[map_cons,mem_cons,be,false_or];split<;>rfl
def agT{α:Type}{n:Int}{v:α}{l:List (Int×α)}(h:(l.map (·.1)).Nodup):((eG l n v).map (·.1)).Nodup:=by
 rw[SJ];split
 ·exact h
 ·rename_i be;rw[nodup_append];exact⟨h,by simp,λa aI b Y=>by rw[List.mem_singleton.1 Y];exact λe=>be (e▸aI)⟩
def aaQ{α:Type}{n:Int}{v:α}:∀{l:List (Int×α)},(l.map (·.1)).Nodup→(n,v)∈l→cH l n=some v
 |[],_,h=>by cases h
 |p::r,be,h=>by
  rw[Dg];simp only[map_cons,nodup_cons]at be;rcases mem_cons.1 h with h|h
  ·rw[←h];simp
  ·have:¬p.1=n:=λe=>be.1 (List.mem_map.2 ⟨(n,v),h,e.symm⟩);rw[if_neg this];exact aaQ be.2 h
def aaR{α:Type}{n:Int}{v:α}:∀{l:List (Int×α)},cH l n=some v→(n,v)∈l
 |[],h=>by simp[cH]at h
 |p::r,h=>by
  rw[Dg]at h;split at h
  ·rename_i aK;cases h;exact mem_cons.2 (.inl (by rw[←aK]))
  ·exact mem_cons.2 (.inr (aaR h))
structure ms(a8:List bW)(ts:List Int)(rows:List (List (Int×Int)))(S:Nat)(fP:Nat→Int→Prop)(m1:List (Int×Int))(m2:List (Int×(Int×Int))):Prop where
 ok:∀v c,cH m1 v=some c→(0≤c∧c<2305843009213693951)∧y6 a8 ts rows S m1 v c ((cH m2 v).getD (0,0))
 part:∀P v,fP P v→c1 m1 v≤c1 (g9 rows P) v+c1 (g9 rows (jA S P)) v
 nd:(m1.map (·.1)).Nodup
variable {m1:List (Int×Int)}{m2:List (Int×(Int×Int))}
def ms.bd{fP:Nat→Int→Prop}(h:ms a8 ts rows S fP m1 m2)(r:Int):0≤c1 m1 r∧c1 m1 r≤2305843009213693951:=by
 unfold c1;cases bQ:cH m1 r with
 |none=>simp
 |some c=>have:=(h.ok r c bQ).1;exact⟨this.1,by show c≤_;omega⟩
def ms.put{fP:Nat→Int→Prop}(h:ms a8 ts rows S fP m1 m2){v c:Int}(bA:0≤c)(cq:c<c1 m1 v)
  (u:y6 a8 ts rows S (eG m1 v c) v c x):ms a8 ts rows S fP (eG m1 v c) (eG m2 v x):=by
 have hle:∀r,c1 (eG m1 v c) r≤c1 m1 r:=λr=>by
  rw[xA];split
  ·rename_i aC;subst aC;omega
  ·omega
 refine⟨λaq d cF=>?_,λP aq hl=>Int.le_trans (hle aq) (h.part P aq hl),agT h.nd⟩;by_cases Zg:aq=v
 ·subst Zg;rw[GY]at cF ⊢;cases cF;exact⟨⟨bA,by have:=(h.bd aq).2;omega⟩,u⟩
 ·rw[Ru _ Zg]at cF ⊢;obtain⟨cZ,c8⟩:=h.ok aq d cF;exact⟨cZ,c8.mono hle⟩
def ms.nil(a8:yO)(ts:cN)(rows:List (List (Int×Int)))(S:Nat):ms a8 ts rows S (λ_ _=>False) [] []:=⟨λv c h=>by simp[cH]at h,λ_ _ h=>h.elim,by simp⟩
def ms.more{fP Sa:Nat→Int→Prop}(h:ms a8 ts rows S fP m1 m2)(aK:∀P v,Sa P v→c1 m1 v≤c1 (g9 rows P) v+c1 (g9 rows (jA S P)) v):ms a8 ts rows S Sa m1 m2:=⟨h.ok,aK,h.nd⟩
structure B0(a8:List bW)(ts:List Int)(rows:List (List (Int×Int)))(S:Nat)(m1:List (Int×Int))(m2:List (Int×(Int×Int))):Prop where
 j:ms a8 ts rows S (λP _=>0<P∧P<S∧P &&& S=P) m1 m2
 one:∀i v,ts[i]?=some v→S=2 ^ i→c1 m1 v≤0
 hop:∀a∈a8,c1 m1 a.Hop.bh≤a.hM+c1 m1 a.Hop.aS
structure xK(a8:List bW)(ts:List Int)(rows:List (List (Int×Int)))(steps:List (List (Int×(Int×Int)))):Prop where
 len:steps.length=rows.length
 row:∀S m1 m2,rows[S]?=some m1→steps[S]?=some m2→B0 a8 ts rows S m1 m2
def LB(h:S<rows.length):g9 (rows++[m]) S=g9 rows S:=by
 unfold g9;rw[getD_eq_getElem?_getD,getD_eq_getElem?_getD,List.getElem?_append_left h]
def y6.app{v c:Int}(fs:S≤rows.length)(vC:S<2 ^ 60)(h:y6 a8 ts rows S m v c x):y6 a8 ts (rows++[l4]) S m v c x:=by
 rcases h with h|⟨h1,P,D,aj,aV,b4,dz,fz,hv⟩|h
 ·exact .inl h
 ·have aC:jA S P<S:=by
   have hc:=Mz (a:=S) (b:=P) vC;rcases Nat.lt_or_eq_of_le hc with hc|hc
   ·exact hc
   ·exfalso;obtain⟨i,hi⟩:∃i,P.testBit i=true:=Nat.exists_testBit_of_ne_zero (by omega);have dI:=Lu (a:=S) (b:=P) vC (by omega) i;have ek:(P &&& S).testBit i=P.testBit i:=by rw[b4]
    rw[hc,hi]at dI;rw[Nat.testBit_and,hi]at ek;simp at dI ek;rw[dI]at ek;cases ek
  refine .inr (.inl ⟨h1,P,D,aj,aV,b4,?_⟩);rw[LB (by omega),LB (by omega)];exact⟨dz,fz,hv⟩
 ·exact .inr (.inr h)
def MO{P:Nat}(vC:S<2 ^ 60)(aj:0<P)(aV:P<S)(b4:P &&& S=P):jA S P<S:=by
 have hc:=Mz (a:=S) (b:=P) vC;rcases Nat.lt_or_eq_of_le hc with hc|hc
 ·exact hc
 ·exfalso;obtain⟨i,hi⟩:∃i,P.testBit i=true:=Nat.exists_testBit_of_ne_zero (by omega);have dI:=Lu (a:=S) (b:=P) vC (by omega) i;have ek:(P &&& S).testBit i=P.testBit i:=by rw[b4]
  rw[hc,hi]at dI;rw[Nat.testBit_and,hi]at ek;simp at dI ek;rw[dI]at ek;cases ek
def B0.app{a8:yO}{ts:cN}{rows:List (List (Int×Int))}{S:Nat}{m1:List (Int×Int)}{m2:List (Int×(Int×Int))}{l4:List (Int×Int)}(fs:S≤rows.length)(vC:S<2 ^ 60)(h:B0 a8 ts rows S m1 m2):B0 a8 ts (rows++[l4]) S m1 m2:=by
 refine⟨⟨λv c ai=>?_,λP v hl=>?_,h.j.nd⟩,h.one,h.hop⟩
 ·obtain⟨cZ,c8⟩:=h.j.ok v c ai;exact⟨cZ,c8.app fs vC⟩
 ·have:=MO vC hl.1 hl.2.1 hl.2.2;rw[LB (by omega),LB (by omega)];exact h.j.part P v hl
def xK.snoc{steps:List (List (Int×(Int×Int)))}(h:xK a8 ts rows steps)(vC:rows.length<2 ^ 60)(hm:B0 a8 ts rows rows.length m1 m2):xK a8 ts (rows++[m1]) (steps++[m2]):=by
 refine⟨by simp[h.len],λS iE jC h1 D=>?_⟩;by_cases fs:S<rows.length
 ·rw[List.getElem?_append_left fs]at h1;rw[List.getElem?_append_left (by rw[h.len];exact fs)]at D;exact(h.row S iE jC h1 D).app (by omega) (by omega)
 ·have aP:=(List.getElem?_eq_some_iff.1 h1).1;simp only[length_append,length_singleton]at aP;have fs:S=rows.length:=by omega
  subst fs;rw[List.getElem?_append_right (Nat.le_refl _)]at h1;rw[List.getElem?_append_right (by rw[h.len];exact Nat.le_refl _),h.len]at D;simp at h1 D;subst h1 D;exact hm.app (Nat.le_refl _) vC
end Go.Proofs.YtmnbolcmepihlaaGreat
namespace Go.Proofs.YtmnbolcmepihlaaGreat
section
set_option linter.all false
set_option maxRecDepth 100000
open Go Go.Proofs.Tryz List
structure abe(a8:List bW)(root:Int)(ts:List Int)(r:List aQ×Int×Bool):Prop where
 nil:ts=[]→r=([],0,true)
 rows:ts≠[]→∃rows steps,rows.length=2 ^ ts.length∧xK a8 ts rows steps∧((2305843009213693951≤c1 (g9 rows (2 ^ ts.length-1)) root∧r=([],0,false))∨
  (c1 (g9 rows (2 ^ ts.length-1)) root<2305843009213693951∧∃H,p1 steps ((2 ^ ts.length-1:Nat):Int) root H∧o4 (gD [λx:aQ=>x.bh,λx:aQ=>x.aS]) H=some r.1∧r.2=(c1 (g9 rows (2 ^ ts.length-1)) root,true)))
def ai5{a8:yO}{rows:List (List (Int×Int))}{steps:List (List (Int×(Int×Int)))}{s:Int}{m:List (Int×Int)}(r:Int)(Z:b2 rows s=some m):
  dn prog 120 [] [.gP [.bf false (aM fl a8),.bf false (aM gH rows),.bf false (aM gQ steps)],.int .i64 s,.int .i64 r] (.int .i64 (c1 m r)):=by
 refine dE func120 rfl rfl ?_;refine axr cQ [] [] [(0,.gP [.bf false (aM fl a8),.bf false (aM gH rows),.bf false (aM gQ steps)]),(1,.int .i64 s),(2,.int .i64 r)] [] (by kernel_rfl) ?_;refine A.seq ?_;refine axr cQ [] [(5,b7 (ix gH Z)),(8,CB (k:=.i64) m r (dB .i64) 0 HW R4)] [(7,.int .i64 ((cH m r).getD 0)),(8,.bool (cH m r).isSome)] [] (by kernel_rfl) ?_;refine axr cQ [] [] [(7,.int .i64 ((cH m r).getD 0)),(21,.bool (cH m r).isSome)] [] (by kernel_rfl) ?_;cases bQ:cH m r with
 |some c=>
  refine axD rfl rfl ?_;refine axr cQ [] [] [(6,.int .i64 c)] [] (by kernel_rfl) ?_;refine A.ret ?_;have e:c1 m r=c:=by unfold c1;rw[bQ];rfl
  rw[e];exact axv cQ [] rfl (by kernel_rfl)
 |none=>
  refine axA rfl rfl ?_;refine A.skip ?_;show aF _ _ _ _ _;refine axr cQ [] [] [(6,.int .i64 2305843009213693951)] [] (by kernel_rfl) ?_;refine A.ret ?_;have e:c1 m r=2305843009213693951:=by unfold c1;rw[bQ];rfl
  rw[e];exact axv cQ [] rfl (by kernel_rfl)
def ayg{G:c7}{α:Type}{x y:Code}{Q:Exit→an→ag→Prop}{env:an}{σ:ag}(P:α→Prop)(hB:α→an)(hG:α→ag)(h:aF G x (ve (λhh aL=>∃g,P g∧dr G hh aL (hB g) (hG g)) Q) env σ)(k:∀g,P g→aF G y Q (hB g) (hG g)):aF G (.seq x y) Q env σ:=by
 refine A.seq (h.mono ?_);intro e hh aL cA;cases e with
 |normal=>
  obtain⟨g,bQ,aA⟩:=cA;exact axB aA (k g bQ)
 |_=>exact cA
def ab7{a8:yO}{root:Int}{ts:cN}(hk:ts.length≤6)(aI:∀a∈a8,(1≤a.hM∧a.hM≤1000000)∧a.Hop.aS≠0)
  (Yc:∀rows steps,rows.length=2 ^ ts.length→xK a8 ts rows steps→c1 (g9 rows (2 ^ ts.length-1)) root<2305843009213693951→∃H,p1 steps ((2 ^ ts.length-1:Nat):Int) root H∧H.length≤1000000∧∃s2,o4 (gD [λx:aQ=>x.bh,λx:aQ=>x.aS]) H=some s2) :
  gZ prog 63 [] [.bf false (aM fl a8),.int .i64 root,.bf false (aM az ts)] (λa aL=>aL=[]∧∃r,abe a8 root ts r∧a=.dm [.bf false (aM bH r.1),.int .i64 r.2.1,.bool r.2.2]):=by
 refine dE func63 rfl rfl ?_;refine axr cQ [] [] [(0,.bf false (aM fl a8)),(1,.int .i64 root),(2,.bf false (aM az ts))] [] (by kernel_rfl) ?_;refine A.seq ?_;refine axr cQ [] [(1,ax (cb az ts))] [(0,.bf false (aM fl a8)),(1,.int .i64 root),(2,.bf false (aM az ts)),(21,.bool (decide ((ts.length:Int)=(0:Int))))] [] (by kernel_rfl) ?_;by_cases sE:ts=[]
 ·subst sE;refine axD rfl rfl ?_;refine axr cQ [] [] [(6,.dh),(7,.int .i64 0),(8,.bool true)] [] (by kernel_rfl) ?_;refine A.ret ?_;refine sO.mono (axv cQ [] (R:=.dm [.bf false (aM bH []),.int .i64 0,.bool true]) (σ2:=[]) rfl (by kernel_rfl)) ?_;rintro a s ⟨rfl,rfl⟩;exact⟨rfl,([],0,true),⟨λ_=>rfl,λh=>absurd rfl h⟩,rfl⟩
 have eH:1≤ts.length:=by cases ts with|nil=>exact absurd rfl sE|cons _ _=>simp
 refine axA rfl (decide_eq_false (by omega)) ?_;refine A.skip ?_;show aF _ _ _ _ _;have Aq:2 ^ ts.length≤64:=Nat.le_trans (Nat.pow_le_pow_right (by omega) hk) (by decide);have VR:IntKind.wrap .i64 (1*2 ^ min (ts.length:Int).toNat 64)=((2 ^ ts.length:Nat):Int):=by
  rw[Int.toNat_natCast,Nat.min_eq_left (by omega),Int.one_mul];have e:((2:Int) ^ ts.length)=((2 ^ ts.length:Nat):Int):=by simp
  rw[e];generalize 2 ^ ts.length=z at Aq ⊢;exact g4 (by omega) (by omega)
 generalize kT:2 ^ ts.length=eA at VR Aq Yc;refine axr cQ [] [(1,ax (cb az ts)),(2,.to (.sh (ts.length:Int) (by omega)) (.int .i64 (IntKind.wrap .i64 (1*2 ^ min (ts.length:Int).toNat 64))) (.int .i64 (eA:Int)) (by rw[VR]))] [(0,.bf false (aM fl a8)),(1,.int .i64 root),(2,.bf false (aM az ts)),(9,.int .i64 (eA:Int))] [] (by kernel_rfl) ?_;refine axr cQ [] [(2,.al 22)] [(1,.int .i64 root),(2,.bf false (aM az ts)),(9,.int .i64 (eA:Int)),(10,.ptr 22 0)] [(22,.cells 165 [.bf false (aM fl a8),.dh,.dh])] (by kernel_rfl) ?_;refine A.seq ?_;refine axr cQ [.ac 22 82 144 1 1,.ac 22 83 166 1 2] [] [(1,.int .i64 root),(2,.bf false (aM az ts)),(9,.int .i64 (eA:Int)),(10,.ptr 22 0),(28,.int .i64 (eA:Int)),(29,.int .i64 0)] [(22,.cells 165 [.bf false (aM fl a8),.own 82,.own 83]),(82,.slice 144 1 (aM gH []) 0 false),(83,.slice 166 1 (aM gQ []) 0 false)] (by kernel_rfl) ?_;refine A.block ?_
 refine A.loop (α:=List (List (Int×Int))×List (List (Int×(Int×Int)))) (λg=>[(1,.int .i64 root),(2,.bf false (aM az ts)),(9,.int .i64 (eA:Int)),(10,.ptr 22 0),(28,.int .i64 (eA:Int)),(29,.int .i64 (g.1.length:Int))])
  (λg=>[(22,.cells 165 [.bf false (aM fl a8),.own 82,.own 83]),(82,.slice 144 1 (aM gH g.1) 0 false),(83,.slice 166 1 (aM gQ g.2) 0 false)])
  (λg=>g.1.length≤eA∧xK a8 ts g.1 g.2) (λg=>eA-g.1.length) ([],[]) ⟨Nat.zero_le _,rfl,λS m1 m2 h=>by simp at h⟩ (dr.go [] [] (by kernel_rfl)) ?_
 rintro⟨rows,steps⟩ ⟨oC,qb⟩;simp only at oC qb;refine axr cQ [] [] [(1,.int .i64 root),(2,.bf false (aM az ts)),(9,.int .i64 (eA:Int)),(10,.ptr 22 0),(28,.int .i64 (eA:Int)),(29,.int .i64 (rows.length:Int)),(30,.bool (decide ((rows.length:Int)<(eA:Int))))] [(22,.cells 165 [.bf false (aM fl a8),.own 82,.own 83]),(82,.slice 144 1 (aM gH rows) 0 false),(83,.slice 166 1 (aM gQ steps) 0 false)] (by kernel_rfl) ?_;refine A.seq ?_;by_cases fs:rows.length<eA
 ·refine axD rfl (decide_eq_true (by omega)) ?_;refine A.skip ?_;show aF _ _ _ _ _;have ao9:rows.length<64:=by omega
  have lB:steps.length=rows.length:=qb.len;generalize Pd:rows.length=S at fs ao9 lB;refine A.seq ?_;refine A.block ?_;refine axr cQ [] [] [(1,.int .i64 root),(2,.bf false (aM az ts)),(9,.int .i64 (eA:Int)),(10,.ptr 22 0),(28,.int .i64 (eA:Int)),(29,.int .i64 (S:Int)),(11,.int .i64 (S:Int))] [(22,.cells 165 [.bf false (aM fl a8),.own 82,.own 83]),(82,.slice 144 1 (aM gH rows) 0 false),(83,.slice 166 1 (aM gQ steps) 0 false)] (by kernel_rfl) ?_;refine axr cQ [] [(6,.al 910000002),(7,WS cQ 910000031),(8,Zk 106 (xs:=aM gH rows) U5 (by rw[nB];omega) (by rw[nB];simp only[maxLen];omega)),(13,.al 910000004),(14,WS cQ 910000033),(15,Zk 119 (xs:=aM gQ steps) U6 (by rw[nB];omega) (by rw[nB];simp only[maxLen];omega))] [(1,.int .i64 root),(2,.bf false (aM az ts)),(9,.int .i64 (eA:Int)),(10,.ptr 22 0),(28,.int .i64 (eA:Int)),(29,.int .i64 (S:Int)),(11,.int .i64 (S:Int))] (gA a8 (aM gH rows) [] (aM gQ steps) []) (by kernel_rfl) ?_;have er:(aM gH rows).length=S:=by rw[nB];exact Pd
  have iR:(aM gQ steps).length=(aM gH rows).length:=by rw[nB,er];exact lB
  refine ayg (λg:List (Int×Int)×List (Int×(Int×Int))=>ms a8 ts rows S (λ_ _=>False) g.1 g.2∧∀i v,ts[i]?=some v→S=2 ^ i→c1 g.1 v≤0) (λ_=>[(1,.int .i64 root),(2,.bf false (aM az ts)),(9,.int .i64 (eA:Int)),(10,.ptr 22 0),(28,.int .i64 (eA:Int)),(29,.int .i64 (S:Int)),(11,.int .i64 (S:Int))]) (λg=>gA a8 (aM gH rows) g.1 (aM gQ steps) g.2) ?_ ?_
  ·
   have vM:∀i,i<ts.length→S=2 ^ i→decide (kf .and .i64 (S:Int) (bE ((S:Int)-(1:Int)))=(0:Int))=true∧0<S:=λi hi h=>by
    have aK:0<S:=by rw[h];exact Nat.two_pow_pos i
    refine⟨decide_eq_true ?_,aK⟩;rw[g4 (by omega) (by omega),show(S:Int)-1=((S-1:Nat):Int)by omega,Lw (by omega) (by omega),h,adM];rfl
   have FE:∀(c:¬(decide (kf .and .i64 (S:Int) (bE ((S:Int)-(1:Int)))=(0:Int))=true∧0<S)),∃g:List (Int×Int)×List (Int×(Int×Int)),(ms a8 ts rows S (λ_ _=>False) g.1 g.2∧∀i v,ts[i]?=some v→S=2 ^ i→c1 g.1 v≤0)∧g=([],[]):=λc=>
    ⟨([],[]),⟨ms.nil _ _ _ _,λi v ai he=>absurd (vM i (List.getElem?_eq_some_iff.1 ai).1 he) c⟩,rfl⟩
   rcases kF (decide (kf .and .i64 (S:Int) (bE ((S:Int)-(1:Int)))=(0:Int)))with c|c
   rotate_left
   ·refine axr cQ [] [(4,ax (b0 c))] [(1,.int .i64 root),(2,.bf false (aM az ts)),(9,.int .i64 (eA:Int)),(10,.ptr 22 0),(28,.int .i64 (eA:Int)),(29,.int .i64 (S:Int)),(11,.int .i64 (S:Int)),(60,.bool false)] (gA a8 (aM gH rows) [] (aM gQ steps) []) (by kernel_rfl) ?_;refine axA rfl rfl ?_;refine A.skip ?_;obtain⟨g,bQ,rfl⟩:=FE (λh=>by rw[h.1]at c;cases c);exact⟨([],[]),bQ,dr.go [] [] (by kernel_rfl)⟩
   refine axr cQ [] [(4,ax (b0 c))] [(1,.int .i64 root),(2,.bf false (aM az ts)),(9,.int .i64 (eA:Int)),(10,.ptr 22 0),(28,.int .i64 (eA:Int)),(29,.int .i64 (S:Int)),(11,.int .i64 (S:Int)),(60,.bool (decide ((0:Int)<(S:Int))))] (gA a8 (aM gH rows) [] (aM gQ steps) []) (by kernel_rfl) ?_;by_cases Fq:0<S
   rotate_left
   ·refine axA rfl (decide_eq_false (by omega)) ?_;refine A.skip ?_;obtain⟨g,bQ,rfl⟩:=FE (λh=>Fq h.2);exact⟨([],[]),bQ,dr.go [] [] (by kernel_rfl)⟩
   refine axD rfl (decide_eq_true (by omega)) ?_;refine axr cQ [] [(1,ax (cb az ts))] [(1,.int .i64 root),(2,.bf false (aM az ts)),(9,.int .i64 (eA:Int)),(10,.ptr 22 0),(28,.int .i64 (eA:Int)),(29,.int .i64 (S:Int)),(11,.int .i64 (S:Int)),(61,.bf false (aM az ts)),(62,.int .i64 (ts.length:Int)),(63,.int .i64 0)] (gA a8 (aM gH rows) [] (aM gQ steps) []) (by kernel_rfl) ?_;refine A.block ?_;refine axt 61 rfl λJo=>?_
   refine A.loop (α:=Nat×List (Int×Int)×List (Int×(Int×Int))) (λg=>[(1,.int .i64 root),(2,.bf false (aM az ts)),(9,.int .i64 (eA:Int)),(10,.ptr 22 0),(28,.int .i64 (eA:Int)),(29,.int .i64 (S:Int)),(11,.int .i64 (S:Int)),(61,.bf false (aM az ts)),(62,.int .i64 (ts.length:Int)),(63,.int .i64 (g.1:Int))]) (λg=>gA a8 (aM gH rows) g.2.1 (aM gQ steps) g.2.2)
    (λg=>g.1≤ts.length∧ms a8 ts rows S (λ_ _=>False) g.2.1 g.2.2∧∀i v,i<g.1→ts[i]?=some v→S=2 ^ i→c1 g.2.1 v≤0) (λg=>ts.length-g.1) (0,[],[]) ⟨Nat.zero_le _,ms.nil _ _ _ _,λi v hi=>by omega⟩ (dr.go [] [] (by kernel_rfl)) ?_
   rintro⟨j,m1,m2⟩ ⟨aY,uR,yE⟩;simp only at aY uR yE;refine axr cQ [] [] [(1,.int .i64 root),(2,.bf false (aM az ts)),(9,.int .i64 (eA:Int)),(10,.ptr 22 0),(28,.int .i64 (eA:Int)),(29,.int .i64 (S:Int)),(11,.int .i64 (S:Int)),(61,.bf false (aM az ts)),(62,.int .i64 (ts.length:Int)),(63,.int .i64 (j:Int)),(64,.bool (decide ((j:Int)<(ts.length:Int))))] (gA a8 (aM gH rows) m1 (aM gQ steps) m2) (by kernel_rfl) ?_;refine A.seq ?_;by_cases p8:j<ts.length
   rotate_left
   ·refine axA rfl (fB (by omega)) ?_;refine A.exit ?_;exact⟨(m1,m2),⟨uR,λi v ai he=>yE i v (by have:=(List.getElem?_eq_some_iff.1 ai).1;omega) ai he⟩,dr.go [] [] (by kernel_rfl)⟩
   have u:ts[j]?=some ts[j]:=List.getElem?_eq_getElem p8;generalize ts[j]=t at u;refine axD rfl (fC u) ?_;refine A.skip ?_;show aF _ _ _ _ _;have apd:IntKind.wrap .i64 (1*2 ^ min (j:Int).toNat 64)=((2 ^ j:Nat):Int):=by
    rw[Int.toNat_natCast,Nat.min_eq_left (by omega),Int.one_mul];have dz:2 ^ j≤64:=Nat.le_trans (Nat.pow_le_pow_right (by omega) (show j≤6 by omega)) (by decide);have e:((2:Int) ^ j)=((2 ^ j:Nat):Int):=by simp
    rw[e];generalize 2 ^ j=z at dz ⊢;exact g4 (by omega) (by omega)
   refine ayg (λg:List (Int×Int)×List (Int×(Int×Int))=>ms a8 ts rows S (λ_ _=>False) g.1 g.2∧(∀x,c1 g.1 x≤c1 m1 x)∧(S=2 ^ j→c1 g.1 t≤0)) (λ_=>[(1,.int .i64 root),(2,.bf false (aM az ts)),(9,.int .i64 (eA:Int)),(10,.ptr 22 0),(28,.int .i64 (eA:Int)),(29,.int .i64 (S:Int)),(11,.int .i64 (S:Int)),(61,.bf false (aM az ts)),(62,.int .i64 (ts.length:Int)),(63,.int .i64 (j:Int))]) (λg=>gA a8 (aM gH rows) g.1 (aM gQ steps) g.2) ?_ ?_
   ·refine A.block ?_;refine axr cQ [] [(1,b7 (ix az (eM u)))] [(1,.int .i64 root),(2,.bf false (aM az ts)),(9,.int .i64 (eA:Int)),(10,.ptr 22 0),(28,.int .i64 (eA:Int)),(29,.int .i64 (S:Int)),(11,.int .i64 (S:Int)),(61,.bf false (aM az ts)),(62,.int .i64 (ts.length:Int)),(63,.int .i64 (j:Int)),(12,.int .i64 (j:Int)),(13,.int .i64 t)] (gA a8 (aM gH rows) m1 (aM gQ steps) m2) (by kernel_rfl) ?_;refine axr cQ [] [(2,.to (.sh (j:Int) (by omega)) (.int .i64 (IntKind.wrap .i64 (1*2 ^ min (j:Int).toNat 64))) (.int .i64 ((2 ^ j:Nat):Int)) (by rw[apd]))] [(1,.int .i64 root),(2,.bf false (aM az ts)),(9,.int .i64 (eA:Int)),(10,.ptr 22 0),(28,.int .i64 (eA:Int)),(29,.int .i64 (S:Int)),(11,.int .i64 (S:Int)),(61,.bf false (aM az ts)),(62,.int .i64 (ts.length:Int)),(63,.int .i64 (j:Int)),(13,.int .i64 t),(71,.bool (decide ((S:Int)=((2 ^ j:Nat):Int))))] (gA a8 (aM gH rows) m1 (aM gQ steps) m2) (by kernel_rfl) ?_;by_cases he:S=2 ^ j
    ·refine axD rfl (decide_eq_true (by rw[he])) ?_;by_cases bA:0<c1 m1 t
     ·have yG:=uR.put (v:=t) (c:=0) (x:=(0,0)) (Int.le_refl _) bA (.inr (.inr ⟨rfl,j,u,he,rfl⟩));have FN:=My (a8:=a8) (eZ:=aM gH rows) (m1:=m1) (gB:=aM gQ steps) (m2:=m2) t 0 0 0 iR bA;rw[er]at FN;refine A.R cQ [] [(4,gW [] FN DV)] [(1,.int .i64 root),(2,.bf false (aM az ts)),(9,.int .i64 (eA:Int)),(10,.ptr 22 0),(28,.int .i64 (eA:Int)),(29,.int .i64 (S:Int)),(11,.int .i64 (S:Int)),(61,.bf false (aM az ts)),(62,.int .i64 (ts.length:Int)),(63,.int .i64 (j:Int))] (gA a8 (aM gH rows) (eG m1 t 0) (aM gQ steps) (eG m2 t (0,0))) (by kernel_rfl) ?_;refine⟨(eG m1 t 0,eG m2 t (0,0)),⟨yG,λx=>?_,λ_=>by rw[xA,if_pos rfl];exact Int.le_refl _⟩,dr.go [] [] (by kernel_rfl)⟩;rw[xA];split
      ·rename_i AN;subst AN;omega
      ·omega
     ·have uT:=Mx (a8:=a8) (eZ:=aM gH rows) (m1:=m1) (gB:=aM gQ steps) (m2:=m2) t 0 0 0 (by omega);rw[er]at uT;refine A.R cQ [] [(4,gW [] uT DV)] [(1,.int .i64 root),(2,.bf false (aM az ts)),(9,.int .i64 (eA:Int)),(10,.ptr 22 0),(28,.int .i64 (eA:Int)),(29,.int .i64 (S:Int)),(11,.int .i64 (S:Int)),(61,.bf false (aM az ts)),(62,.int .i64 (ts.length:Int)),(63,.int .i64 (j:Int))] (gA a8 (aM gH rows) m1 (aM gQ steps) m2) (by kernel_rfl) ?_;exact⟨(m1,m2),⟨uR,λx=>Int.le_refl _,λ_=>by show c1 m1 t≤0;omega⟩,dr.go [] [] (by kernel_rfl)⟩
    ·refine axA rfl (decide_eq_false λh=>he (by omega)) ?_;refine A.skip ?_;exact⟨(m1,m2),⟨uR,λx=>Int.le_refl _,λh=>absurd h he⟩,dr.go [] [] (by kernel_rfl)⟩
   rintro⟨iE,jC⟩ ⟨cZ,c8,h3⟩;simp only at cZ c8 h3;refine A.R cQ [] [(0,ax (fk u Jo))] [(1,.int .i64 root),(2,.bf false (aM az ts)),(9,.int .i64 (eA:Int)),(10,.ptr 22 0),(28,.int .i64 (eA:Int)),(29,.int .i64 (S:Int)),(11,.int .i64 (S:Int)),(61,.bf false (aM az ts)),(62,.int .i64 (ts.length:Int)),(63,.int .i64 ((j+1:Nat):Int))] (gA a8 (aM gH rows) iE (aM gQ steps) jC) (by kernel_rfl) ?_;refine⟨(j+1,iE,jC),⟨p8,cZ,λi v hi ai he=>?_⟩,by simp only;omega,dr.go [] [] (by kernel_rfl)⟩;rcases Nat.lt_or_eq_of_le (Nat.le_of_lt_succ hi)with hi|hi
   ·exact Int.le_trans (c8 v) (yE i v hi ai he)
   ·subst hi;rw[u]at ai;cases ai
    exact h3 he
  rintro⟨m1,m2⟩ ⟨aY,qB⟩;simp only at aY qB;have aoV:kf .and .i64 (bE ((S:Int)-(1:Int))) (S:Int)=(((S-1) &&& S:Nat):Int):=by
   rcases Nat.eq_zero_or_pos S with bA|bA
   ·rw[bA];decide
   ·rw[g4 (by omega) (by omega),show(S:Int)-1=((S-1:Nat):Int)by omega,Lw (by omega) (by omega)]
  refine ayg (λg:List (Int×Int)×List (Int×(Int×Int))=>ms a8 ts rows S (λP _=>0<P∧P<S∧P &&& S=P) g.1 g.2∧∀i v,ts[i]?=some v→S=2 ^ i→c1 g.1 v≤0) (λ_=>[(1,.int .i64 root),(2,.bf false (aM az ts)),(9,.int .i64 (eA:Int)),(10,.ptr 22 0),(28,.int .i64 (eA:Int)),(29,.int .i64 (S:Int)),(11,.int .i64 (S:Int))]) (λg=>gA a8 (aM gH rows) g.1 (aM gQ steps) g.2) ?_ ?_
  ·
   refine axr cQ [] [(3,ax (show W.int .i64 (kf .and .i64 (bE ((S:Int)-(1:Int))) (S:Int))=W.int .i64 (((S-1) &&& S:Nat):Int)by rw[aoV]))] [(1,.int .i64 root),(2,.bf false (aM az ts)),(9,.int .i64 (eA:Int)),(10,.ptr 22 0),(28,.int .i64 (eA:Int)),(29,.int .i64 (S:Int)),(11,.int .i64 (S:Int)),(14,.int .i64 (((S-1) &&& S:Nat):Int))] (gA a8 (aM gH rows) m1 (aM gQ steps) m2) (by kernel_rfl) ?_;refine A.block ?_
   refine A.loop (α:=Nat×List (Int×Int)×List (Int×(Int×Int))) (λg=>[(1,.int .i64 root),(2,.bf false (aM az ts)),(9,.int .i64 (eA:Int)),(10,.ptr 22 0),(28,.int .i64 (eA:Int)),(29,.int .i64 (S:Int)),(11,.int .i64 (S:Int)),(14,.int .i64 (g.1:Int))]) (λg=>gA a8 (aM gH rows) g.2.1 (aM gQ steps) g.2.2)
    (λg=>(g.1 &&& S=g.1∧(0<g.1→g.1<S))∧ms a8 ts rows S (λP _=>g.1<P∧P<S∧P &&& S=P) g.2.1 g.2.2∧∀i v,ts[i]?=some v→S=2 ^ i→c1 g.2.1 v≤0) (λg=>g.1) ((S-1) &&& S,m1,m2) ⟨⟨K7 0,λh=>?_⟩,aY.more λP v hl=>?_,qB⟩ (dr.go [] [] (by kernel_rfl)) ?_
   ·have:=Nat.and_le_left (n:=S-1) (m:=S);simp only at h ⊢;omega
   ·exfalso;have:=Lx S S P (Nat.and_self S) hl.2.2 hl.2.1;simp only at hl;omega
   rintro⟨p,kO,kY⟩ ⟨⟨Jw,Yd⟩,uR,yE⟩;simp only at Jw Yd uR yE;have done:∀(aK:p=0∨S=0),ms a8 ts rows S (λP _=>0<P∧P<S∧P &&& S=P) kO kY:=λaK=>uR.more λP v hl=>uR.part P v ⟨by omega,hl.2⟩;refine A.seq ?_;rcases kF (decide ((0:Int)<(S:Int)))with c|c
   rotate_left
   ·have wR:=of_decide_eq_false c;refine axr cQ [] [(1,ax (b0 c))] [(1,.int .i64 root),(2,.bf false (aM az ts)),(9,.int .i64 (eA:Int)),(10,.ptr 22 0),(28,.int .i64 (eA:Int)),(29,.int .i64 (S:Int)),(11,.int .i64 (S:Int)),(14,.int .i64 (p:Int)),(87,.bool false)] (gA a8 (aM gH rows) kO (aM gQ steps) kY) (by kernel_rfl) ?_;refine axA rfl rfl ?_;refine A.exit ?_;exact⟨(kO,kY),⟨done (by omega),yE⟩,dr.go [] [] (by kernel_rfl)⟩
   have wR:=of_decide_eq_true c;refine axr cQ [] [(1,ax (b0 c))] [(1,.int .i64 root),(2,.bf false (aM az ts)),(9,.int .i64 (eA:Int)),(10,.ptr 22 0),(28,.int .i64 (eA:Int)),(29,.int .i64 (S:Int)),(11,.int .i64 (S:Int)),(14,.int .i64 (p:Int)),(87,.bool (decide ((0:Int)<(p:Int))))] (gA a8 (aM gH rows) kO (aM gQ steps) kY) (by kernel_rfl) ?_;by_cases aK:0<p
   rotate_left
   ·refine axA rfl (decide_eq_false (by omega)) ?_;refine A.exit ?_;exact⟨(kO,kY),⟨done (by omega),yE⟩,dr.go [] [] (by kernel_rfl)⟩
   refine axD rfl (decide_eq_true (by omega)) ?_;refine A.skip ?_;show aF _ _ _ _ _;have k7:=Yd aK;have jm:rows[p]?=some (g9 rows p):=by
    unfold g9;rw[getD_eq_getElem?_getD,List.getElem?_eq_getElem (by omega)];rfl
   generalize hm:g9 rows p=m at jm;have AM:(aM gH rows)[(p:Int).toNat]?=some [.ec (fh .i64 (dB .i64) m)]:=by
    rw[Int.toNat_natCast];simp[aM,jm,gH]
   refine ayg (λg:List (Int×Int)×List (Int×(Int×Int))=>ms a8 ts rows S (λP _=>p≤P∧P<S∧P &&& S=P) g.1 g.2∧∀i v,ts[i]?=some v→S=2 ^ i→c1 g.1 v≤0) (λ_=>[(1,.int .i64 root),(2,.bf false (aM az ts)),(9,.int .i64 (eA:Int)),(10,.ptr 22 0),(28,.int .i64 (eA:Int)),(29,.int .i64 (S:Int)),(11,.int .i64 (S:Int)),(14,.int .i64 (p:Int))]) (λg=>gA a8 (aM gH rows) g.1 (aM gQ steps) g.2) ?_ ?_
   ·refine A.block ?_;have N1:jA S p<S:=MO (by omega) aK k7 Jw;have Ye:b2 rows ((jA S p:Nat):Int)=some (g9 rows (jA S p)):=by
     unfold b2 g9;rw[if_pos (by omega),Int.toNat_natCast,getD_eq_getElem?_getD,List.getElem?_eq_getElem (by omega)];rfl
    have Yf:∀Q,Q<S→∃jC,ms a8 ts rows Q (λP _=>0<P∧P<Q∧P &&& Q=P) (g9 rows Q) jC:=λQ Au=>by
     have h1:rows[Q]?=some (g9 rows Q):=by
      unfold g9;rw[getD_eq_getElem?_getD,List.getElem?_eq_getElem (by omega)];rfl
     exact⟨_,(qb.row Q _ _ h1 (List.getElem?_eq_getElem (by omega))).j⟩
    obtain⟨awj,p9⟩:=Yf p k7;obtain⟨awd,YS⟩:=Yf (jA S p) N1;rw[hm]at p9
    refine A.seq (ayh cQ 7 [] [(5,FP (xs:=aM gH rows) (i:=(p:Int)) Ej ⟨by omega,by rw[er];omega⟩),(6,Zn (xs:=aM gH rows) (p:=(p:Int).toNat) Ei AM)]
     [(98,.ec (fh .i64 (dB .i64) m)),(97,.ptr 106 (p:Int).toNat),(96,.int .i64 (p:Int)),(95,.own 106),(94,.ptr 22 1),(93,.ptr 22 0),(92,.ptr 22 0),(1,.int .i64 root),(2,.bf false (aM az ts)),(9,.int .i64 (eA:Int)),(10,.ptr 22 0),(28,.int .i64 (eA:Int)),(29,.int .i64 (S:Int)),(11,.int .i64 (S:Int)),(14,.int .i64 (p:Int)),(87,.bool (decide ((0:Int)<(p:Int))))] (gA a8 (aM gH rows) kO (aM gQ steps) kY)
     (by kernel_rfl) (by kernel_rfl) (by kernel_rfl) rfl rfl (ayI (gn:=910000040) (x:=.tmp 98) (bO:=fh .i64 (dB .i64) m) rfl rfl underlying144 rfl rfl) rfl rfl ?_)
    rintro bZ aL ⟨rfl,es,clock,rfl⟩;refine⟨[],_,_,rfl,?_⟩;show aF _ _ _ _ _;refine A.block ?_
    refine azZ (k:=.i64) (enc:=dB .i64) (l:=m) (gn:=910000040) (clock:=clock) (es:=es) (λq (g:List (Int×Int)×List (Int×(Int×Int)))=>ms a8 ts rows S (λP v=>(p<P∧P<S∧P &&& S=P)∨(P=p∧∃c,(v,c)∈q)) g.1 g.2∧∀i v,ts[i]?=some v→S=2 ^ i→c1 g.1 v≤0) (kO,kY)
     (λ_=>[(1,.int .i64 root),(2,.bf false (aM az ts)),(9,.int .i64 (eA:Int)),(10,.ptr 22 0),(28,.int .i64 (eA:Int)),(29,.int .i64 (S:Int)),(11,.int .i64 (S:Int)),(14,.int .i64 (p:Int)),(99,.ptr 910000040 0)]) (λseen g=>gA a8 (aM gH rows) g.1 (aM gQ steps) g.2++[(910000040,.jd es clock (fh .i64 (dB .i64) m) seen)]) ⟨rfl,rfl,rfl⟩ ⟨rfl,rfl,rfl⟩ (by kernel_rfl)
     ⟨uR.more λP v hl=>uR.part P v (by rcases hl with h|⟨_,c,ah⟩;exact h;cases ah),yE⟩ (λ_=>rfl) (λ_ _=>rfl) (λ_ _ _=>rfl) (dr.go [] [] (by kernel_rfl)) ?_ ?_
    ·rintro seen e i n v q ⟨iS,kZ⟩ he CC ⟨aA,CI⟩;simp only at aA CI;refine A.block ?_;refine axr cQ [] [(0,apw 910000040 clock .i64 seen (dB .i64) he CC)] [(1,.int .i64 root),(2,.bf false (aM az ts)),(9,.int .i64 (eA:Int)),(10,.ptr 22 0),(28,.int .i64 (eA:Int)),(29,.int .i64 (S:Int)),(11,.int .i64 (S:Int)),(14,.int .i64 (p:Int)),(99,.ptr 910000040 0),(15,.int .i64 n),(16,.int .i64 v)] (gA a8 (aM gH rows) iS (aM gQ steps) kZ++[(910000040,.jd es clock (fh .i64 (dB .i64) m) (seen.push e.born))]) (by kernel_rfl) ?_;have YQ:cH m n=some v:=aaQ p9.nd (List.mem_of_getElem? CC);have ai:=(p9.ok n v YQ).1;have II:c1 m n=v:=by unfold c1;rw[YQ];rfl
     have cz:=YS.bd n;have fD:=aA.bd n;have XN:bE (v+c1 (g9 rows (jA S p)) n)=v+c1 (g9 rows (jA S p)) n:=g4 (by omega) (by omega)
     have gi:∀{x:Int} {c:Int},(x,c)∈q++[(n,v)]→(∃c,(x,c)∈q)∨x=n:=λ{x c} h=>by
      rcases List.mem_append.1 h with h|h
      ·exact .inl ⟨c,h⟩
      ·simp at h;exact .inr h.1
     by_cases cq:v+c1 (g9 rows (jA S p)) n<c1 iS n
     ·have FN:=My (a8:=a8) (eZ:=aM gH rows) (m1:=iS) (gB:=aM gQ steps) (m2:=kZ) n (v+c1 (g9 rows (jA S p)) n) 0 (p:Int) iR cq;rw[er]at FN;have yG:=aA.put (v:=n) (c:=v+c1 (g9 rows (jA S p)) n) (x:=(0,(p:Int))) (by omega) cq (.inr (.inl ⟨rfl,p,rfl,aK,k7,Jw,by rw[hm,II],by rw[hm,II];exact ai.2,by omega⟩))
      refine A.R cQ [] [(7,ax (show W.int .i64 (kf .andNot .i64 (S:Int) (p:Int))=W.int .i64 ((jA S p:Nat):Int)by rw[RY (by omega)])),(9,bI (UR (a8:=a8) (rows:=rows) (m1:=iS) (gB:=aM gQ steps) (m2:=kZ) n Ye) BC),(10,ax (show W.int .i64 (bE (v+c1 (g9 rows (jA S p)) n))=W.int .i64 (v+c1 (g9 rows (jA S p)) n)by rw[XN])),(13,gW [] FN DV)]
       [(1,.int .i64 root),(2,.bf false (aM az ts)),(9,.int .i64 (eA:Int)),(10,.ptr 22 0),(28,.int .i64 (eA:Int)),(29,.int .i64 (S:Int)),(11,.int .i64 (S:Int)),(14,.int .i64 (p:Int)),(99,.ptr 910000040 0)] (gA a8 (aM gH rows) (eG iS n (v+c1 (g9 rows (jA S p)) n)) (aM gQ steps) (eG kZ n (0,(p:Int)))++[(910000040,.jd es clock (fh .i64 (dB .i64) m) (seen.push e.born))]) (by kernel_rfl) ?_
      have hle:∀x,c1 (eG iS n (v+c1 (g9 rows (jA S p)) n)) x≤c1 iS x:=λx=>by
       rw[xA];split
       ·rename_i u;subst u;omega
       ·omega
      refine⟨(eG iS n (v+c1 (g9 rows (jA S p)) n),eG kZ n (0,(p:Int))),⟨yG.more λP x hl=>?_,λi x u hi=>Int.le_trans (hle x) (CI i x u hi)⟩,dr.go [] [] (by kernel_rfl)⟩;rcases hl with hl|⟨rfl,c,ah⟩
      ·exact yG.part P x (.inl hl)
      ·rcases gi ah with ah|rfl
       ·exact yG.part _ x (.inr ⟨rfl,ah⟩)
       ·rw[hm,II,xA,if_pos rfl];exact Int.le_refl _
     ·have uT:=Mx (a8:=a8) (eZ:=aM gH rows) (m1:=iS) (gB:=aM gQ steps) (m2:=kZ) n (v+c1 (g9 rows (jA S p)) n) 0 (p:Int) (by omega);rw[er]at uT
      refine A.R cQ [] [(7,ax (show W.int .i64 (kf .andNot .i64 (S:Int) (p:Int))=W.int .i64 ((jA S p:Nat):Int)by rw[RY (by omega)])),(9,bI (UR (a8:=a8) (rows:=rows) (m1:=iS) (gB:=aM gQ steps) (m2:=kZ) n Ye) BC),(10,ax (show W.int .i64 (bE (v+c1 (g9 rows (jA S p)) n))=W.int .i64 (v+c1 (g9 rows (jA S p)) n)by rw[XN])),(13,gW [] uT DV)]
       [(1,.int .i64 root),(2,.bf false (aM az ts)),(9,.int .i64 (eA:Int)),(10,.ptr 22 0),(28,.int .i64 (eA:Int)),(29,.int .i64 (S:Int)),(11,.int .i64 (S:Int)),(14,.int .i64 (p:Int)),(99,.ptr 910000040 0)] (gA a8 (aM gH rows) iS (aM gQ steps) kZ++[(910000040,.jd es clock (fh .i64 (dB .i64) m) (seen.push e.born))]) (by kernel_rfl) ?_
      refine⟨(iS,kZ),⟨aA.more λP x hl=>?_,CI⟩,dr.go [] [] (by kernel_rfl)⟩;rcases hl with hl|⟨rfl,c,ah⟩
      ·exact aA.part P x (.inl hl)
      ·rcases gi ah with ah|rfl
       ·exact aA.part _ x (.inr ⟨rfl,ah⟩)
       ·rw[hm,II];omega
    ·rintro seen q ⟨iS,kZ⟩ DX ⟨aA,CI⟩;simp only at aA CI;refine⟨(iS,kZ),⟨aA.more λP x hl=>?_,CI⟩,dr.go [] [] (by kernel_rfl)⟩;rcases Nat.lt_or_eq_of_le hl.1 with h|h
     ·exact aA.part P x (.inl ⟨h,hl.2⟩)
     ·subst h;cases bQ:cH m x with
      |some c=>exact aA.part _ x (.inr ⟨rfl,c,DX.mem_iff.2 (aaR bQ)⟩)
      |none=>
       have h1:c1 m x=2305843009213693951:=by unfold c1;rw[bQ];rfl
       have D:=(aA.bd x).2;have aj:=(YS.bd x).1;rw[hm,h1];omega
   rintro⟨iE,jC⟩ ⟨uS,E1⟩;simp only at uS E1;have qa:kf .and .i64 (bE ((p:Int)-(1:Int))) (S:Int)=(((p-1) &&& S:Nat):Int):=by
    rw[g4 (by omega) (by omega),show(p:Int)-1=((p-1:Nat):Int)by omega,Lw (by omega) (by omega)]
   refine A.R cQ [] [(3,ax (show W.int .i64 (kf .and .i64 (bE ((p:Int)-(1:Int))) (S:Int))=W.int .i64 (((p-1) &&& S:Nat):Int)by rw[qa]))] [(1,.int .i64 root),(2,.bf false (aM az ts)),(9,.int .i64 (eA:Int)),(10,.ptr 22 0),(28,.int .i64 (eA:Int)),(29,.int .i64 (S:Int)),(11,.int .i64 (S:Int)),(14,.int .i64 (((p-1) &&& S:Nat):Int))] (gA a8 (aM gH rows) iE (aM gQ steps) jC) (by kernel_rfl) ?_;have hle:=Nat.and_le_left (n:=p-1) (m:=S);refine⟨((p-1) &&& S,iE,jC),⟨⟨K7 0,λ_=>by show(p-1) &&& S<S;omega⟩,uS.more λP v hl=>uS.part P v ⟨?_,hl.2⟩,E1⟩,by simp only;omega,dr.go [] [] (by kernel_rfl)⟩;have avj:(p-1) &&& S<P:=hl.1;apply Classical.byContradiction;intro be;have:=Lx p S P Jw hl.2.2 (by omega);omega
  rintro⟨iE,jC⟩ ⟨uS,E1⟩;simp only at uS E1
  have Y9:=adZ (a8:=a8) (eZ:=aM gH rows) (m1:=iE) (gB:=aM gQ steps) (m2:=jC) iR (λa b=>ms a8 ts rows S (λP _=>0<P∧P<S∧P &&& S=P) a b∧∀i v,ts[i]?=some v→S=2 ^ i→c1 a v≤0) ⟨uS,E1⟩ (λa b h r=>h.1.bd r) (λa h=>by have:=(aI a h).1;omega) (λa b e h he cq=>by
   have mF:=(aI e he).1;have aR:=h.1.bd e.Hop.aS;have aoq:e.Hop.aS≠e.Hop.bh:=λlV=>by rw[lV]at cq;omega
   refine⟨h.1.put (by omega) cq (.inl ⟨(aI e he).2,e,he,rfl,rfl,?_⟩),λi v ai hi=>?_⟩
   ·show e.hM+c1 (eG a e.Hop.bh (e.hM+c1 a e.Hop.aS)) e.Hop.aS≤_;rw[xA,if_neg aoq];exact Int.le_refl _
   ·have:=h.2 i v ai hi;rw[xA];split
    ·rename_i u;subst u;omega
    ·exact this)
  rw[er]at Y9;refine ayh cQ 2 [] [] [(120,.int .i64 (S:Int)),(119,.ptr 22 0),(1,.int .i64 root),(2,.bf false (aM az ts)),(9,.int .i64 (eA:Int)),(10,.ptr 22 0),(28,.int .i64 (eA:Int)),(29,.int .i64 (S:Int)),(11,.int .i64 (S:Int))] (gA a8 (aM gH rows) iE (aM gQ steps) jC) (by kernel_rfl) (by kernel_rfl) (by kernel_rfl) rfl rfl (ayq [] rfl rfl rfl rfl rfl rfl ?_ Y9 alR) rfl rfl ?_
  ·rintro r σ2 ⟨rfl,ga,bV,_,_,rfl⟩;exact⟨rfl,rfl⟩
  rintro bZ aL ⟨σ2,⟨rfl,ga,bV,⟨hk,aoJ⟩,ape,rfl⟩,rfl⟩;refine⟨[],_,_,rfl,?_⟩;show aF _ _ _ _ _;refine A.R cQ [] [(0,ax (show W.int .i64 (bE ((S:Int)+(1:Int)))=W.int .i64 (((rows++[ga]).length:Nat):Int)by rw[g4 (by omega) (by omega),length_append,Pd];simp))] [(1,.int .i64 root),(2,.bf false (aM az ts)),(9,.int .i64 (eA:Int)),(10,.ptr 22 0),(28,.int .i64 (eA:Int)),(29,.int .i64 (((rows++[ga]).length:Nat):Int))] (gA a8 (aM gH rows) ga (aM gQ steps) bV) (by kernel_rfl) ?_;have e1:aM gH (rows++[ga])=aM gH rows++[[.ec (fh .i64 (dB .i64) ga)]]:=by simp[aM,gH]
  have e2:aM gQ (steps++[bV])=aM gQ steps++[[.ec (fh .i64 s0 bV)]]:=by simp[aM,gQ]
  refine⟨(rows++[ga],steps++[bV]),⟨by simp only[length_append,length_singleton];omega,qb.snoc (by omega) (by rw[Pd];exact⟨hk,aoJ,ape⟩)⟩,by simp only[length_append,length_singleton];omega,?_⟩;show dr _ _ _ _ [(22,.cells 165 [.bf false (aM fl a8),.own 82,.own 83]),(82,.slice 144 1 (aM gH (rows++[ga])) 0 false),(83,.slice 166 1 (aM gQ (steps++[bV])) 0 false)];rw[e1,e2]
  exact(dr.go (eB:=[(1,.int .i64 root),(2,.bf false (aM az ts)),(9,.int .i64 (eA:Int)),(10,.ptr 22 0),(28,.int .i64 (eA:Int)),(29,.int .i64 (((rows++[ga]).length:Nat):Int))]) (σ2:=[(22,.cells 165 [.bf false (aM fl a8),.own 106,.own 119]),(106,.ic 144 (aM gH rows) 910000002),(910000002,.mO 3 3 (fh .i64 (dB .i64) ga)),(119,.ic 166 (aM gQ steps) 910000004),(910000004,.mO 3 169 (fh .i64 s0 bV))]) [.dO [910000002,910000004]] [] (by kernel_rfl)).trans
   ((ayH 106 910000002 rfl rfl).trans ((ayH 119 910000004 rfl rfl).trans (dr.go [.ja 106 82,.ja 119 83] [] (by kernel_rfl))))
 ·refine axA rfl (decide_eq_false (by omega)) ?_;refine A.exit ?_;show aF _ _ _ _ _;have oD:rows.length=eA:=by omega
  have fU:1≤eA:=by rw[←kT];exact Nat.two_pow_pos _
  have NJ:b2 rows ((eA-1:Nat):Int)=some (g9 rows (eA-1)):=by
   unfold b2 g9;rw[if_pos (by omega),Int.toNat_natCast,getD_eq_getElem?_getD,List.getElem?_eq_getElem (by omega)];rfl
  have XO:bE ((eA:Int)-(1:Int))=((eA-1:Nat):Int):=by rw[g4 (by omega) (by omega)];omega
  refine axB ((dr.go (eB:=[(1,.int .i64 root),(9,.int .i64 (eA:Int)),(10,.ptr 22 0)]) (σ2:=[(22,.cells 165 [.bf false (aM fl a8),.bf false (aM gH rows),.bf false (aM gQ steps)])]) [.dO [82,83],.sc 22 []] [] (by kernel_rfl)).trans
   (ayn (T:=165) (cs:=[.bf false (aM fl a8),.bf false (aM gH rows),.bf false (aM gQ steps)]) 10 22 rfl rfl rfl)) ?_
  refine axr cQ [] [(2,ax (show W.int .i64 (bE ((eA:Int)-(1:Int)))=W.int .i64 ((eA-1:Nat):Int)by rw[XO])),(4,bI (ai5 (a8:=a8) (rows:=rows) (steps:=steps) root NJ) BC)] [(1,.int .i64 root),(9,.int .i64 (eA:Int)),(10,.gP [.bf false (aM fl a8),.bf false (aM gH rows),.bf false (aM gQ steps)]),(17,.int .i64 (c1 (g9 rows (eA-1)) root))] [] (by kernel_rfl) ?_;refine A.seq ?_;refine axr cQ [] [] [(1,.int .i64 root),(9,.int .i64 (eA:Int)),(10,.gP [.bf false (aM fl a8),.bf false (aM gH rows),.bf false (aM gQ steps)]),(17,.int .i64 (c1 (g9 rows (eA-1)) root)),(129,.bool (decide ((2305843009213693951:Int)≤c1 (g9 rows (eA-1)) root)))] [] (by kernel_rfl) ?_;by_cases N2:2305843009213693951≤c1 (g9 rows (eA-1)) root
  ·refine axD rfl (decide_eq_true N2) ?_;refine axr cQ [] [] [(6,.dh),(7,.int .i64 0),(8,.bool false)] [] (by kernel_rfl) ?_;refine A.ret ?_;refine sO.mono (axv cQ [] (R:=.dm [.bf false (aM bH []),.int .i64 0,.bool false]) (σ2:=[]) rfl (by kernel_rfl)) ?_;rintro a s ⟨rfl,rfl⟩;exact⟨rfl,([],0,false),⟨λh=>absurd h sE,λ_=>⟨rows,steps,by rw[kT];exact oD,qb,by rw[kT];exact .inl ⟨N2,rfl⟩⟩⟩,rfl⟩
  ·refine axA rfl (decide_eq_false N2) ?_;refine A.skip ?_;show aF _ _ _ _ _;obtain⟨H,mF,avk,s2,Zd⟩:=Yc rows steps oD qb (by omega);have iQ:=acn (a8:=a8) (xJ:=rows) mF (l:=[]) (by simp;omega);rw[nil_append]at iQ;refine axr cQ [] [(0,.al 73)] [(1,.int .i64 root),(9,.int .i64 (eA:Int)),(10,.gP [.bf false (aM fl a8),.bf false (aM gH rows),.bf false (aM gQ steps)]),(17,.int .i64 (c1 (g9 rows (eA-1)) root)),(18,.ptr 73 0)] [(73,.cells 34 [.dh])] (by kernel_rfl) ?_;refine axr cQ [.ac 73 910000011 84 2 0] [(2,ax (show W.int .i64 (bE ((eA:Int)-(1:Int)))=W.int .i64 ((eA-1:Nat):Int)by rw[XO])),(5,gW [910000012] iQ Is)] [(17,.int .i64 (c1 (g9 rows (eA-1)) root)),(18,.ptr 73 0)] (nX 910000012 H) (by kernel_rfl) ?_;refine axr cQ [] [(1,gW [] (adT (d:=910000012) (T:=84) Zd) alT)] [(17,.int .i64 (c1 (g9 rows (eA-1)) root)),(18,.ptr 73 0)] (nX 910000012 s2) (by kernel_rfl) ?_;refine axr cQ [] [] [(6,.own 910000012),(7,.int .i64 (c1 (g9 rows (eA-1)) root)),(8,.bool true)] [(910000012,.slice 84 2 (aM bH s2) 0 false)] (by kernel_rfl) ?_;refine A.ret ?_;refine sO.mono (axv cQ [.dO [910000012]] (R:=.dm [.bf false (aM bH s2),.int .i64 (c1 (g9 rows (eA-1)) root),.bool true]) (σ2:=[]) rfl (by kernel_rfl)) ?_;rintro a s ⟨rfl,rfl⟩;exact⟨rfl,(s2,c1 (g9 rows (eA-1)) root,true),⟨λh=>absurd h sE,λ_=>⟨rows,steps,by rw[kT];exact oD,qb,by rw[kT];exact .inr ⟨by omega,H,mF,Zd,rfl⟩⟩⟩,rfl⟩
end
end Go.Proofs.YtmnbolcmepihlaaGreat
namespace Go.Proofs.YtmnbolcmepihlaaGreat
set_option linter.all false
open Go List
def Hi{m:List (Int×Int)}{v:Int}(h:c1 m v<2305843009213693951):cH m v=some (c1 m v):=by
 unfold c1 at h ⊢;cases bQ:cH m v with
 |none=>rw[bQ]at h;simp at h
 |some c=>rfl
def adN{m:List (Int×Int)}{v c:Int}(h:cH m v=some c):c1 m v=c:=by unfold c1;rw[h];rfl
def HJ{α:Type}{l:List α}{S:Nat}(h:S<l.length):∃x,l[S]?=some x:=⟨l[S],List.getElem?_eq_getElem h⟩
def Ue{rows:List (List (Int×Int))}{S:Nat}{m:List (Int×Int)}(h:rows[S]?=some m):g9 rows S=m:=by
 unfold g9;rw[getD_eq_getElem?_getD,h];rfl
def acQ{S P:Nat}(fs:S<2 ^ 60)(iX:P<S)(h:P &&& S=P):P &&& jA S P=0∧P ||| jA S P=S:=by
 have Y:=Lu (a:=S) (b:=P) fs (by omega);have aK:∀i,(P.testBit i&&S.testBit i)=P.testBit i:=λi=>by rw[←Nat.testBit_and,h]
 constructor
 ·apply Nat.eq_of_testBit_eq;intro i;rw[Nat.testBit_and,Y,Nat.zero_testBit];cases P.testBit i<;>simp
 ·apply Nat.eq_of_testBit_eq;intro i;have:=aK i;rw[Nat.testBit_or,Y];cases h1:P.testBit i<;>cases D:S.testBit i<;>rw[h1,D]at this<;>simp at this ⊢
def acR{S P R:Nat}(fs:S<2 ^ 60)(iX:P<2 ^ 60)(bA:P &&& R=0)(h:P ||| R=S):R=jA S P∧P &&& S=P:=by
 have Y:=Lu (a:=S) (b:=P) fs iX;have hz:∀i,(P.testBit i&&R.testBit i)=false:=λi=>by rw[←Nat.testBit_and,bA,Nat.zero_testBit]
 have ar:∀i,(P.testBit i||R.testBit i)=S.testBit i:=λi=>by rw[←Nat.testBit_or,h]
 constructor
 ·apply Nat.eq_of_testBit_eq;intro i;have h1:=hz i;have D:=ar i;rw[Y,←D];cases aK:P.testBit i<;>cases aC:R.testBit i<;>rw[aK,aC]at h1<;>simp at h1 ⊢
 ·apply Nat.eq_of_testBit_eq;intro i;have D:=ar i;rw[Nat.testBit_and,←D];cases P.testBit i<;>simp
section
variable {a8:yO}{ts:cN}{rows:List (List (Int×Int))}{steps:List (List (Int×(Int×Int)))}
def T8(h:xK a8 ts rows steps)(dZ:pR a8)(Aq:rows.length≤64):∀(S:Nat),S<rows.length→∀(n:Nat) (v c:Int),c.toNat=n→cH (g9 rows S) v=some c→∃gu,mV fv a8 ts.length (λi=>ts.getD i 0) S v gu∧hu fv gu=c∧p1 steps (S:Int) v (gu.map (·.Hop)):=by
 intro S;induction S using Nat.strongRecOn with
 |_ S AR=>
  intro fs n;induction n using Nat.strongRecOn with
  |_ n Zp=>
   intro v c YG ai;obtain⟨m1,uP⟩:=HJ fs;obtain⟨m2,tC⟩:=HJ (l:=steps) (S:=S) (by rw[h.len];exact fs);have mG:=h.row S m1 m2 uP tC;rw[Ue uP]at ai Zp;obtain⟨⟨Pn,YF⟩,lB⟩:=mG.j.ok v c ai;have sv:b2 steps (S:Int)=some m2:=by unfold b2;rw[if_pos (by omega),Int.toNat_natCast];exact tC
   rcases lB with⟨u,a,aI,h1,D,aj⟩|⟨u,P,h1,D,aj,aV,b4,dz,fz⟩|⟨u,i,h1,D,aj⟩
   ·have ah:=dZ.cost a aI;have aoy:=mG.hop a aI;rw[h1,D,adN ai]at aoy;have lV:c1 m1 ((cH m2 v).getD (0,0)).1=c-a.hM:=by omega
    have hk:cH m1 ((cH m2 v).getD (0,0)).1=some (c-a.hM):=by rw[←lV];exact Hi (by omega)
    have bA:=(mG.j.bd ((cH m2 v).getD (0,0)).1).1;obtain⟨gu,cZ,c8,h3⟩:=Zp (c-a.hM).toNat (by omega) _ (c-a.hM) rfl hk;refine⟨a::gu,?_,by rw[rj,c8];show a.hM+_=_;omega,?_⟩
    ·have:=mV.hop (N:=fv) a aI (show mV fv a8 ts.length (λi=>ts.getD i 0) S (fv.dst a) gu by show mV _ _ _ _ S a.Hop.aS gu;rw[D];exact cZ);have e:fv.src a=v:=h1;rw[e]at this;exact this
    ·have e:(a::gu).map (·.Hop)=aQ.mk v ((cH m2 v).getD (0,0)).1::gu.map (·.Hop):=by
      rw[map_cons,←D,←h1]
     rw[e];exact p1.next sv rfl u h3
   ·have cz:=MO (by omega) D aj aV;obtain⟨gu,cZ,c8,h3⟩:=AR P aj (by omega) _ v _ rfl (Hi dz);obtain⟨abp,ga,bV,i3⟩:=AR (jA S P) cz (by omega) _ v _ rfl (Hi fz);obtain⟨cM,dY⟩:=acQ (S:=S) (P:=P) (by omega) aj aV;refine⟨gu++abp,?_,by rw[aaO,c8,bV,b4],?_⟩
    ·have:=mV.part cM cZ ga;rw[dY]at this;exact this
    ·rw[List.map_append];refine p1.part sv rfl u (by rw[h1];omega) rfl (by rw[h1];exact h3) ?_;rw[h1,RY (by omega)];exact i3
   ·refine⟨[],?_,by rw[aj];rfl,p1.leaf sv u⟩;have e:ts.getD i 0=v:=by rw[getD_eq_getElem?_getD,h1];rfl
    have:=mV.one (N:=fv) (L:=a8) (k:=ts.length) (ts:=λi=>ts.getD i 0) i (List.getElem?_eq_some_iff.1 h1).1;simp only[e]at this;rw[D];exact this
def adO(h:xK a8 ts rows steps)(dZ:pR a8)(aP:rows.length=2 ^ ts.length)(Aq:rows.length≤64):HR fv a8 ts.length (λi=>ts.getD i 0) (λS v=>c1 (g9 rows S) v):=by
 have F:∀S,S<rows.length→∃m2,B0 a8 ts rows S (g9 rows S) m2:=λS fs=>by
  obtain⟨m1,uP⟩:=HJ fs;obtain⟨m2,tC⟩:=HJ (l:=steps) (S:=S) (by rw[h.len];exact fs);exact⟨m2,by rw[Ue uP];exact h.row S m1 m2 uP tC⟩
 refine⟨λa aI=>by have:=(dZ.cost a aI).1;show 0≤a.hM;omega,λi hi=>?_,λS bA fs a aI=>?_,λS P R fs iX cz bA ar v=>?_⟩
 ·obtain⟨m2,mG⟩:=F (2 ^ i) (by rw[aP];exact Nat.pow_lt_pow_right (by omega) hi);refine mG.one i _ ?_ rfl;rw[getD_eq_getElem?_getD,List.getElem?_eq_getElem hi];rfl
 ·obtain⟨m2,mG⟩:=F S (by rw[aP];exact fs);exact mG.hop a aI
 ·obtain⟨m2,mG⟩:=F S (by rw[aP];exact fs);have cq:=y1 bA ar cz;obtain⟨e1,e2⟩:=acR (S:=S) (P:=P) (by omega) (by omega) bA ar;have:=mG.j.part P v ⟨iX,cq,e2⟩;rw[←e1]at this;exact this
def yN:∀{l:yO},(∀a∈l,1≤a.hM∧a.hM≤1000)→(l.length:Int)≤hu fv l∧hu fv l≤1000*l.length
 |[],_=>by simp[hu]
 |a::l,h=>by
  have h1:=h a (by simp);have D:=yN λb Y=>h b (mem_cons.2 (.inr Y));rw[rj,length_cons];have:fv.cost a=a.hM:=rfl;omega
def T9{k i:Nat}:(2 ^ k-1).testBit i=decide (i<k):=by rw[Nat.testBit_two_pow_sub_one]
def H7{v:Int}{K:yO}:(∀i,(2 ^ ts.length-1).testBit i=true→e9 fv K v (ts.getD i 0))↔∀t,t∈ts→e9 fv K v t:=by
 constructor
 ·intro h t bU;obtain⟨i,hi⟩:=List.getElem?_of_mem bU;have:=h i (by rw[T9];exact decide_eq_true (List.getElem?_eq_some_iff.1 hi).1)
  rwa [getD_eq_getElem?_getD,hi]at this
 ·intro h i hi;rw[T9]at hi;have hi:=of_decide_eq_true hi;refine h _ ?_;rw[getD_eq_getElem?_getD,List.getElem?_eq_getElem hi];exact List.getElem_mem hi
def Ua(h:xK a8 ts rows steps)(dZ:pR a8)(aP:rows.length=2 ^ ts.length)(hk:ts.length≤6)(h1:1≤ts.length){root:Int}:
  (2305843009213693951≤c1 (g9 rows (2 ^ ts.length-1)) root→¬∀t,t∈ts→e9 fv a8 root t)∧
  (c1 (g9 rows (2 ^ ts.length-1)) root<2305843009213693951→∃gu:yO,mT fv a8 (λt=>t∈ts) root gu∧hu fv gu=c1 (g9 rows (2 ^ ts.length-1)) root∧p1 steps ((2 ^ ts.length-1:Nat):Int) root (gu.map (·.Hop))):=by
 have Aq:rows.length≤64:=by rw[aP];exact Nat.le_trans (Nat.pow_le_pow_right (by omega) hk) (by decide)
 have N3:=adO h dZ aP Aq;have qa:2 ^ 1≤2 ^ ts.length:=Nat.pow_le_pow_right (by omega) h1
 have hle:∀K,(∀a∈K,a∈a8)→(∀t,t∈ts→e9 fv K root t)→c1 (g9 rows (2 ^ ts.length-1)) root≤hu fv K:=λK gE ah=>
  N3.le K.length K (Nat.le_refl _) gE (2 ^ ts.length-1) (by omega) (by omega) root (H7.2 ah)
 constructor
 ·intro bc ah;have D:=hle a8 (λa aI=>aI) ah;have aj:=(yN dZ.cost).2;have aV:=dZ.len;omega
 ·intro bc;obtain⟨gu,cZ,c8,h3⟩:=T8 h dZ Aq (2 ^ ts.length-1) (by omega) _ root _ rfl (Hi bc);refine⟨gu,⟨cZ.sub,λa aI=>by have:=(dZ.cost a aI).1;show 0<a.hM;omega,H7.1 cZ.qu,λK gE ah=>by rw[c8];exact hle K gE ah⟩,c8,h3⟩
end
end Go.Proofs.YtmnbolcmepihlaaGreat
namespace Go.Proofs.YtmnbolcmepihlaaGreat
set_option linter.all false
open Go Go.Proofs.Tryz List
def SK{α:Type}{fL:α→α→Int}(bU:∀a b c,fL a b<0→fL b c<0→fL a c<0){x:α}:∀{l:List α},(l.Pairwise λa b=>fL a b<0)→(∀y∈l,fL x y<0∨fL y x<0)→(zW fL x l).Pairwise λa b=>fL a b<0
 |[],_,_=>by simp[zW]
 |y::r,h,u=>by
  rw[pairwise_cons]at h;simp only[zW];split
  ·rename_i FR;rw[pairwise_cons];refine⟨λz hz=>?_,SK bU h.2 λz hz=>u z (by simp[hz])⟩;rcases mem_cons.1 ((RH fL x r).mem_iff.1 hz)with rfl|hz
   ·exact FR
   ·exact h.1 z hz
  ·rename_i FR;have n5:fL x y<0:=by rcases u y (by simp)with q|q;exact q;exact absurd q FR
   rw[pairwise_cons];refine⟨λz hz=>?_,pairwise_cons.2 h⟩;rcases mem_cons.1 hz with rfl|hz
   ·exact n5
   ·exact bU _ _ _ n5 (h.1 z hz)
def Rv{α:Type}{fL:α→α→Int}(bU:∀a b c,fL a b<0→fL b c<0→fL a c<0):∀{l:List α},(l.Pairwise λa b=>fL a b<0∨fL b a<0)→(sM fL l).Pairwise λa b=>fL a b<0
 |[],_=>by simp[sM]
 |x::r,h=>by
  rw[pairwise_cons]at h;exact SK bU (Rv bU h.2) λy ak=>h.1 y ((AV fL r).mem_iff.1 ak)
def SL{α:Type}{fL:α→α→Int}:∀{l:List α},(l.Pairwise λa b=>fL a b<0)→zz fL l=true
 |[],_=>rfl
 |[x],_=>rfl
 |a::b::r,h=>by
  rw[pairwise_cons]at h;simp only[zz,Bool.and_eq_true,decide_eq_true_eq];exact⟨h.1 b (by simp),SL h.2⟩
def K8{α:Type}{ks:List (α→Int)}{l:List α}(h:l.Pairwise λa b=>gD ks a b<0∨gD ks b a<0)(aP:l.length≤1000000):∃m,o4 (gD ks) l=some m∧m.Perm l∧m.Pairwise λa b=>gD ks a b<0:=by
 have h1:=Rv (A0 ks) h;refine⟨sM (gD ks) l,?_,AV _ _,h1⟩;unfold o4;have:(decide (l.length<4611686018427387904))=true:=by simp;omega
 rw[SL h1,this];rfl
def Mq{a8:yO}{T:Int→Prop}{root:Int}{gu:yO}(dZ:pR a8)(h:mT fv a8 T root gu)(aP:gu.length≤1000000):∃m,o4 (gD [λx:aQ=>x.bh,λx:aQ=>x.aS]) (gu.map (·.Hop))=some m∧m.Perm (gu.map (·.Hop))∧m.Pairwise λa b=>gD [λx:aQ=>x.bh,λx:aQ=>x.aS] a b<0:=by
 refine K8 ?_ (by simpa using aP);rw[pairwise_map];have fH:gu.Pairwise λa b=>a≠b:=h.nodup;refine fH.imp_of_mem λ{a b} aI Y jH=>?_;have di:a.Hop≠b.Hop:=λe=>jH (dZ.hop a (h.sub a aI) b (h.sub b Y) e);rw[p7,p7,p7,p7];have D:a.Hop.bh≠b.Hop.bh∨a.Hop.aS≠b.Hop.aS:=by
  apply Classical.byContradiction;intro be;have e1:a.Hop.bh=b.Hop.bh:=Classical.byContradiction λx=>be (.inl x);have e2:a.Hop.aS=b.Hop.aS:=Classical.byContradiction λx=>be (.inr x);apply di;cases Pj:a.Hop;cases h5:b.Hop
  rw[Pj,h5]at e1 e2;simp only at e1 e2;rw[e1,e2]
 simp only[gD];omega
def agV{fM:List (List (Int×(Int×Int)))}{s r:Int}{H:Es}(h:p1 fM s r H):∀s2,p1 fM s r s2→H=s2:=by
 induction h with
 |leaf h be=>
  intro s2 dw;cases dw with
  |leaf _ _=>rfl
  |next D u n4 _=>rw[h]at D;cases D;rw[be]at u;subst u;exact absurd rfl n4
  |part D u _ n4 _ _ _=>rw[h]at D;cases D;rw[be]at u;subst u;exact absurd rfl n4
 |next h u be _ bX=>
  intro s2 dw;cases dw with
  |leaf D n4=>rw[h]at D;cases D;rw[n4]at u;subst u;exact absurd rfl be
  |next D eu _ n2=>rw[h]at D;cases D;rw[u]at eu;subst eu;rw[bX _ n2]
  |part D eu aj _ _ _ _=>rw[h]at D;cases D;rw[u]at eu;subst eu;exact absurd aj be
 |part h u h1 be Z _ _ Qc F5=>
  intro s2 dw;cases dw with
  |leaf D n4=>rw[h]at D;cases D;rw[n4]at u;subst u;exact absurd rfl be
  |next D eu n4 _=>rw[h]at D;cases D;rw[u]at eu;subst eu;exact absurd h1 n4
  |part D eu _ _ fV qy n2=>rw[h]at D;cases D;rw[u]at eu;subst eu;subst Z;subst fV;rw[Qc _ qy,F5 _ n2]
def ZN{β:Type}{a8:yO}{root:Int}{ts:cN}{K:(Es×Int×Bool)→Option β}{r:β}(hm:CY a8 root ts K=some r):
  gZ prog 63 [] [.bf false (aM fl a8),.int .i64 root,.bf false (aM az ts)] (λa aL=>aL=[]∧∃x,K x=some r∧a=.dm [.bf false (aM bH x.1),.int .i64 x.2.1,.bool x.2.2]):=by
 unfold CY at hm;split at hm
 rotate_left
 ·cases hm
 rename_i ah;obtain⟨dZ,hk⟩:=ah;have k5:=acN hm
 have KJ:∀(gu:yO),mT fv a8 (λt=>t∈ts) root gu→gu.length≤1000000:=λgu h4=>by
  have h1:=(yN λa aI=>dZ.cost a (h4.sub a aI)).1;have D:=h4.min a8 (λa aI=>aI) (λt bU=>(h4.qu t bU).mono h4.sub);have aj:=(yN dZ.cost).2;have aV:=dZ.len;omega
 have aA:=ab7 (a8:=a8) (root:=root) (ts:=ts) hk (λa aI=>⟨by have:=dZ.cost a aI;omega,dZ.to a aI⟩) (λrows steps aP mG bc=>by
  by_cases sE:1≤ts.length
  ·obtain⟨gu,cZ,c8,h3⟩:=(Ua mG dZ aP hk sE (root:=root)).2 bc;have Z:=KJ gu cZ;obtain⟨m,hm,_⟩:=Mq dZ cZ Z;exact⟨_,h3,by simpa using Z,m,hm⟩
  ·have bA:ts=[]:=eq_nil_of_length_eq_zero (by omega);subst bA;have er:rows.length=1:=aP;obtain⟨m2,tC⟩:=HJ (l:=steps) (S:=0) (by rw[mG.len,er];omega);obtain⟨gu,cZ,c8,h3⟩:=T8 mG dZ (by omega) 0 (by omega) _ root _ rfl (Hi bc);exfalso
   have:∀{S:Nat} {v:Int} {H:yO},mV fv a8 0 (λi=>([]:cN).getD i 0) S v H→False:=λh=>by
    induction h with
    |one i hi=>omega
    |hop _ _ _ bX=>exact bX
    |part _ _ _ bX _=>exact bX
   exact this cZ)
 refine aA.mono ?_;rintro a s ⟨rfl,x,u,rfl⟩;refine⟨rfl,x,k5 x ?_,rfl⟩;by_cases sE:ts=[]
 ·rw[u.nil sE]
  have h4:mT fv a8 (λt=>t∈ts) root []:=by
   refine⟨λa aI=>(by cases aI),λa aI=>by have:=(dZ.cost a aI).1;show 0<a.hM;omega,λt bU=>(by rw[sE]at bU;cases bU),λK gE _=>?_⟩;have:=(yN λa aI=>dZ.cost a (gE a aI)).1;have e:hu fv ([]:yO)=0:=rfl;rw[e];omega
  exact .inl ⟨rfl,⟨[],h4,rfl,List.Perm.refl _⟩,Pairwise.nil⟩
 ·have h1:1≤ts.length:=by cases aph:ts with|nil=>exact absurd aph sE|cons _ _=>simp
  obtain⟨rows,steps,aP,mG,h⟩:=u.rows sE;have lX:=Ua mG dZ aP hk h1 (root:=root);rcases h with⟨bc,rfl⟩|⟨bc,H,mF,Z,aC⟩
  ·exact .inr ⟨rfl,lX.1 bc⟩
  ·refine .inl ⟨by rw[aC],?_⟩;obtain⟨gu,cZ,c8,h3⟩:=lX.2 bc;have e:=agV mF _ h3;subst e;obtain⟨m,uP,tC,aoO⟩:=Mq dZ cZ (KJ gu cZ);rw[uP]at Z;have e2:=Option.some.inj Z;refine⟨⟨gu,cZ,by rw[c8,aC],by rw[←e2];exact tC⟩,by rw[←e2];exact aoO⟩
end Go.Proofs.YtmnbolcmepihlaaGreat
