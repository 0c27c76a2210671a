/- Several texts in one. No condition but those that stand in each. -/
import Derived.Test.YtmnbolcmepihlaaGreatB6
namespace Go.Proofs.YtmnbolcmepihlaaGreat
set_option linter.all false
open Go
section
structure vg(A:Type) where
 src:A→Int
 dst:A→Int
 cost:A→Int
section net
variable {A:Type}[DecidableEq A](N:vg A)
inductive eR(H:List A):Int→Int→Prop
 |refl (v:Int):eR H v v
 |step {ay:Int} (a:A) (aC:a∈H) (h:eR H (N.dst a) ay):eR H (N.src a) ay
def gX(H:List A):Int:=(H.map N.cost).sum
variable {N}
theorem eR.mono{H K:List A}{v ay:Int}(h:eR N H v ay)(W:∀a∈H,a∈K):eR N K v ay:=by
 induction h with
 |refl v=>exact .refl v
 |step a aC _ bD=>exact .step a (W a aC) bD
theorem eR.trans{H:List A}{v ay t:Int}(h:eR N H v ay)(D:eR N H ay t):eR N H v t:=by
 induction h with
 |refl v=>exact D
 |step a aC _ bD=>exact .step a aC (bD D)
theorem eR.one{H:List A}{a:A}(aC:a∈H):eR N H (N.src a) (N.dst a):=.step a aC (.refl _)
theorem Xh(v:Int){H:List A}{x t:Int}(h:eR N H x t):eR N (H.filter λa=>!decide (N.src a=v)) x t∨∃e∈H,N.src e=v∧eR N (H.filter λa=>!decide (N.src a=v)) (N.dst e) t:=by
 induction h with
 |refl v=>exact .inl (.refl v)
 |step a aC _ bD=>
  rcases bD with bD|bD
  ·by_cases af:N.src a=v
   ·exact .inr ⟨a,aC,af,bD⟩
   ·exact .inl (.step a (List.mem_filter.2 ⟨aC,by simp[af]⟩) bD)
  ·exact .inr bD
theorem UM{H:List A}{v t:Int}(h:eR N H v t)(ct:v≠t):∃e∈H,N.src e=v∧eR N (H.filter λa=>!decide (N.src a=v)) (N.dst e) t:=by
 rcases Xh v h with h|h
 ·generalize u:v=x at h;cases h with
  |refl _=>exact absurd u ct
  |step a aC h=>
   have:=(List.mem_filter.1 aC).2;simp at this
 ·exact h
theorem o6(a:A)(H:List A):gX N (a::H)=N.cost a+gX N H:=by simp[gX]
theorem VD(H K:List A):gX N (H++K)=gX N H+gX N K:=by
 induction H with
 |nil=>simp[gX]
 |cons a H bD=>rw[List.cons_append,o6,o6,bD];omega
theorem TY{H:List A}(h:∀a∈H,0≤N.cost a):0≤gX N H:=by
 induction H with
 |nil=>simp[gX]
 |cons a H bD=>
  rw[o6];have h1:=h a (by simp);have D:=bD λb V=>h b (by simp[V]);omega
theorem Lq{e:A}:∀{H:List A},e∈H→gX N H=N.cost e+gX N (H.erase e)
 |[],h=>by cases h
 |a::H,h=>by
  by_cases aC:a=e
  ·subst aC;rw[List.erase_cons_head,o6]
  ·rw[List.erase_cons_tail (by simpa using aC),o6,o6,Lq (H:=H) (by
    rcases List.mem_cons.1 h with h|h
    ·exact absurd h.symm aC
    ·exact h)]
   omega
theorem T9(p:A→Bool):∀(H:List A),gX N H=gX N (H.filter p)+gX N (H.filter λa=>!p a)
 |[]=>rfl
 |a::H=>by
  rw[o6,T9 p H];cases aB:p a with
  |true=>rw[List.filter_cons_of_pos (by simp[aB]),List.filter_cons_of_neg (by simp[aB]),o6];omega
  |false=>rw[List.filter_cons_of_neg (by simp[aB]),List.filter_cons_of_pos (by simp[aB]),o6];omega
theorem MM(p:Nat→Bool):∀k:Nat,∃m,m<2 ^ k∧∀i,m.testBit i=(decide (i<k)&&p i)
 |0=>⟨0,by simp,λi=>by simp⟩
 |k+1=>by
  obtain⟨m,h1,D⟩:=MM p k;refine⟨m ||| (if p k then 2 ^ k else 0),Nat.or_lt_two_pow (Nat.lt_of_lt_of_le h1 (Nat.pow_le_pow_right (by omega) (by omega))) (by split;exact Nat.pow_lt_pow_right (by omega) (by omega);exact Nat.two_pow_pos _),λi=>?_⟩;rw[Nat.testBit_or,D];by_cases hi:i=k
  ·subst hi;cases aB:p i<;>simp
  ·have e:(if p k=true then 2 ^ k else 0).testBit i=false:=by
    split
    ·rw[Nat.testBit_two_pow];simp;omega
    ·simp
   rw[e];by_cases aJ:i<k
   ·have:i<k+1:=by omega
    simp[aJ,this]
   ·have:¬i<k+1:=by omega
    simp[aJ,this]
theorem Z3{S i:Nat}(h:S.testBit i=true):0<S:=by
 rcases Nat.eq_zero_or_pos S with bJ|bJ
 ·subst bJ;simp at h
 ·exact bJ
theorem Lr{S:Nat}(h:0<S):∃i,S.testBit i=true:=by
 apply Classical.byContradiction;intro aT
 have:S=0:=Nat.eq_of_testBit_eq λi=>by
  cases V:S.testBit i with
  |true=>exact absurd ⟨i,V⟩ aT
  |false=>simp
 omega
theorem HI{S k i:Nat}(h:S<2 ^ k)(V:S.testBit i=true):i<k:=by
 apply Classical.byContradiction;intro aT;rw[Nat.testBit_lt_two_pow (Nat.lt_of_lt_of_le h (Nat.pow_le_pow_right (by omega) (by omega)))]at V;cases V
theorem LH{S k:Nat}(fc:S<2 ^ k)(p:Nat→Bool):∃P R,P &&& R=0∧P ||| R=S∧(∀i,P.testBit i=(S.testBit i&&p i))∧∀i,R.testBit i=(S.testBit i&&!p i):=by
 obtain⟨P,_,h1⟩:=MM (λi=>S.testBit i&&p i) k;obtain⟨R,_,D⟩:=MM (λi=>S.testBit i&&!p i) k
 have hk:∀i,(decide (i<k)&&S.testBit i)=S.testBit i:=λi=>by
  cases V:S.testBit i with
  |true=>simp[HI fc V]
  |false=>simp
 have an:∀i,P.testBit i=(S.testBit i&&p i):=λi=>by rw[h1,←Bool.and_assoc,hk]
 have au:∀i,R.testBit i=(S.testBit i&&!p i):=λi=>by rw[D,←Bool.and_assoc,hk]
 refine⟨P,R,Nat.eq_of_testBit_eq λi=>?_,Nat.eq_of_testBit_eq λi=>?_,an,au⟩
 ·rw[Nat.testBit_and,an,au];cases S.testBit i<;>cases p i<;>simp
 ·rw[Nat.testBit_or,an,au];cases S.testBit i<;>cases p i<;>simp
theorem yj{S P R:Nat}(bJ:P &&& R=0)(h:P ||| R=S)(b2:0<R):P<S:=by
 have h1:P≤S:=by rw[←h];exact Nat.left_le_or
 rcases Nat.lt_or_eq_of_le h1 with D|D
 ·exact D
 ·obtain⟨i,hi⟩:=Lr b2;have ak:(P ||| R).testBit i=P.testBit i:=by rw[h,D]
  have bc:(P &&& R).testBit i=false:=by rw[bJ];simp
  rw[Nat.testBit_or,hi]at ak;rw[Nat.testBit_and,hi]at bc;simp at ak bc;rw[bc]at ak;cases ak
structure Hy(N:vg A)(L:List A)(k:Nat)(ts:Nat→Int)(C:Nat→Int→Int):Prop where
 pos:∀a∈L,0≤N.cost a
 one:∀i,i<k→C (2 ^ i) (ts i)≤0
 hop:∀S,0<S→S<2 ^ k→∀a∈L,C S (N.src a)≤N.cost a+C S (N.dst a)
 part:∀S P R,S<2 ^ k→0<P→0<R→P &&& R=0→P ||| R=S→∀v,C S v≤C P v+C R v
theorem Hy.le{L:List A}{k:Nat}{ts:Nat→Int}{C:Nat→Int→Int}(h:Hy N L k ts C):∀(n:Nat) (H:List A),H.length≤n→(∀a∈H,a∈L)→∀(S:Nat),0<S→S<2 ^ k→∀v,(∀i,S.testBit i=true→eR N H v (ts i))→C S v≤gX N H:=by
 classical
 intro n;induction n with
 |zero=>
  intro H aT iZ S;have rX:H=[]:=List.eq_nil_of_length_eq_zero (by omega);subst rX;induction S using Nat.strongRecOn with
  |_ S xY=>
   intro fc r0 v aa;obtain⟨i,hi⟩:=Lr fc;have vD:=HI r0 hi;have af:v=ts i:=by
    have:=aa i hi;cases this with
    |refl _=>rfl
    |step a aC _=>cases aC
   obtain⟨P,R,an,au,aK,aG⟩:=LH r0 (λj=>decide (j=i))
   have mW:P=2 ^ i:=Nat.eq_of_testBit_eq λj=>by
    rw[aK,Nat.testBit_two_pow];by_cases aM:j=i
    ·subst aM;simp[hi]
    ·have:¬i=j:=λe=>aM e.symm;simp[aM,this]
   rcases Nat.eq_zero_or_pos R with b2|b2
   ·have:S=P:=by rw[←au,b2];simp
    rw[this,mW,af];have:=h.one i vD;simpa [gX]using this
   ·have h1:=h.part S P R r0 (by rw[mW];exact Nat.two_pow_pos _) b2 an au v;have D:=xY R (yj (by rw[Nat.and_comm];exact an) (by rw[Nat.or_comm];exact au) (by rw[mW];exact Nat.two_pow_pos _)) b2 (by have:R≤S:=by{rw[←au];exact Nat.right_le_or};omega) v (λj aM=>aa j (by rw[aG]at aM;simp at aM;exact aM.1));have ak:=h.one i vD;rw[←af,←mW]at ak;omega
 |succ n bD=>
  intro H aT iZ S;have anT:0≤gX N H:=TY λa aC=>h.pos a (iZ a aC);induction S using Nat.strongRecOn with
  |_ S xY=>
   intro fc r0 v aa;by_cases mX:∃i,S.testBit i=true∧ts i=v
   ·obtain⟨i,hi,af⟩:=mX;have vD:=HI r0 hi;obtain⟨P,R,an,au,aK,aG⟩:=LH r0 (λj=>decide (j=i))
    have mW:P=2 ^ i:=Nat.eq_of_testBit_eq λj=>by
     rw[aK,Nat.testBit_two_pow];by_cases aM:j=i
     ·subst aM;simp[hi]
     ·have:¬i=j:=λe=>aM e.symm;simp[aM,this]
    have ak:=h.one i vD;rw[af,←mW]at ak;rcases Nat.eq_zero_or_pos R with b2|b2
    ·have:S=P:=by rw[←au,b2];simp
     rw[this];omega
    ·have h1:=h.part S P R r0 (by rw[mW];exact Nat.two_pow_pos _) b2 an au v;have D:=xY R (yj (by rw[Nat.and_comm];exact an) (by rw[Nat.or_comm];exact au) (by rw[mW];exact Nat.two_pow_pos _)) b2 (by have:R≤S:=by{rw[←au];exact Nat.right_le_or};omega) v (λj aM=>aa j (by rw[aG]at aM;simp at aM;exact aM.1));omega
   ·have s5:∀i,S.testBit i=true→v≠ts i:=λi hi e=>mX ⟨i,hi,e.symm⟩;obtain⟨nD,JQ⟩:=Lr fc;obtain⟨e,he,JP,agL⟩:=UM (aa nD JQ) (s5 nD JQ)
    have R7:∀a∈H.filter (λa=>!decide (N.src a=v)),a∈H.erase e:=λa aC=>by
     obtain⟨h1,D⟩:=List.mem_filter.1 aC;refine(List.mem_erase_of_ne λagj=>?_).2 h1;subst agj;simp[JP]at D
    have ahO:=agL.mono R7;have jq:∀a∈H.erase e,a∈L:=λa aC=>iZ a (List.mem_of_mem_erase aC);have eF:(H.erase e).length≤n:=by rw[List.length_erase_of_mem he];omega
    have anX:=Lq (N:=N) he;obtain⟨P,R,an,au,aK,aG⟩:=LH r0 (λi=>decide (eR N (H.erase e) (N.dst e) (ts i)));have agd:P.testBit nD=true:=by rw[aK];simp[JQ,ahO]
    have EK:=Z3 agd;rcases Nat.eq_zero_or_pos R with b2|b2
    ·have h1:=bD (H.erase e) eF jq S fc r0 (N.dst e) (λi hi=>by
      have bR:=aG i;rw[b2,hi]at bR;simp at bR;exact bR)
     have D:=h.hop S fc r0 e (iZ e he);rw[JP]at D;omega
    ·let q:A→Bool:=λa=>decide (eR N (H.erase e) (N.dst e) (N.src a))
     have agc:P<S:=yj an au b2;have anA:R<S:=yj (by rw[Nat.and_comm];exact an) (by rw[Nat.or_comm];exact au) EK
     have stay:∀{x t:Int},eR N (H.erase e) x t→eR N (H.erase e) (N.dst e) x→eR N ((H.erase e).filter q) x t:=λ{x t} u=>by
      induction u with
      |refl v=>intro _;exact .refl v
      |step a aC _ bD=>intro hu;exact .step a (List.mem_filter.2 ⟨aC,decide_eq_true hu⟩) (bD (hu.trans (.one aC)))
     have off:∀{x t:Int},eR N (H.erase e) x t→¬eR N (H.erase e) (N.dst e) t→eR N ((H.erase e).filter λa=>!q a) x t:=λ{x t} u=>by
      induction u with
      |refl v=>intro _;exact .refl v
      |step a aC ax bD=>
       intro hu;refine .step a (List.mem_filter.2 ⟨aC,?_⟩) (bD hu);have:¬eR N (H.erase e) (N.dst e) (N.src a):=λbR=>hu (bR.trans (.step a aC ax));simp only[q,this,decide_false,Bool.not_false]
     have h1:=h.part S P R r0 EK b2 an au v;have r7:=T9 (N:=N) q (H.erase e);have bc:gX N (e::(H.erase e).filter q)=N.cost e+gX N ((H.erase e).filter q):=o6 _ _;have D:C P v≤gX N (e::(H.erase e).filter q):=by
      by_cases Sg:(e::(H.erase e).filter q).length≤n
      ·refine bD _ Sg (λa aC=>?_) P EK (by omega) v λi hi=>?_
       ·rcases List.mem_cons.1 aC with rfl|aC
        ·exact iZ _ he
        ·exact jq a (List.mem_filter.1 aC).1
       ·rw[aK]at hi;simp only[Bool.and_eq_true,decide_eq_true_eq]at hi;rw[←JP];exact .step e (by simp) ((stay hi.2 (.refl _)).mono λa aC=>List.mem_cons.2 (.inr aC))
      ·
       have me:gX N ((H.erase e).filter q)=gX N (H.erase e):=by
        have zl:=List.length_filter_le q (H.erase e);have lX:=List.length_erase_of_mem he;have hle:(H.erase e).length≤((H.erase e).filter q).length:=by
         simp only[List.length_cons]at Sg;omega
        rw[List.filter_eq_self.2 (List.length_filter_eq_length_iff.1 (by omega))]
       have bX:=xY P agc EK (by omega) v (λi hi=>aa i (by rw[aK]at hi;simp at hi;exact hi.1));omega
     have ak:C R v≤gX N ((H.erase e).filter λa=>!q a):=by
      refine bD _ (Nat.le_trans (List.length_filter_le _ _) eF) (λa aC=>jq a (List.mem_filter.1 aC).1) R b2 (by omega) v λi hi=>?_;rw[aG]at hi;simp only[Bool.and_eq_true,Bool.not_eq_true',decide_eq_false_iff_not]at hi;obtain⟨e2,vv,EH,JA⟩:=UM (aa i hi.1) (s5 i hi.1);have EI:=JA.mono R7;have ct:e2≠e:=λh=>by subst h;exact hi.2 EI
      have JB:e2∈H.erase e:=(List.mem_erase_of_ne ct).2 vv;refine off ?_ hi.2;rw[←EH];exact .step e2 JB EI
     omega
end net
end
section
section net2
variable {A:Type}[DecidableEq A]{N:vg A}
inductive l5(N:vg A)(L:List A)(k:Nat)(ts:Nat→Int):Nat→Int→List A→Prop
 |one (i:Nat):i<k→l5 N L k ts (2 ^ i) (ts i) []
 |hop {S:Nat} {H:List A} (a:A):a∈L→l5 N L k ts S (N.dst a) H→l5 N L k ts S (N.src a) (a::H)
 |part {P R:Nat} {v:Int} {H K:List A}:P &&& R=0→l5 N L k ts P v H→l5 N L k ts R v K→l5 N L k ts (P ||| R) v (H++K)
theorem l5.sub{L:List A}{k:Nat}{ts:Nat→Int}{S:Nat}{v:Int}{H:List A}(h:l5 N L k ts S v H):∀a∈H,a∈L:=by
 induction h with
 |one i _=>intro a aC;cases aC
 |hop a aC _ bD=>
  intro b V;rcases List.mem_cons.1 V with rfl|V
  ·exact aC
  ·exact bD b V
 |part _ _ _ h1 D=>
  intro b V;rcases List.mem_append.1 V with V|V
  ·exact h1 b V
  ·exact D b V
theorem l5.qJ{L:List A}{k:Nat}{ts:Nat→Int}{S:Nat}{v:Int}{H:List A}(h:l5 N L k ts S v H):∀i,S.testBit i=true→eR N H v (ts i):=by
 induction h with
 |one i _=>
  intro j aM;rw[Nat.testBit_two_pow]at aM;have:i=j:=by simpa using aM
  subst this;exact .refl _
 |hop a aC _ bD=>exact λi hi=>.step a (by simp) ((bD i hi).mono λb V=>List.mem_cons.2 (.inr V))
 |part _ _ _ h1 D=>
  intro i hi;rw[Nat.testBit_or,Bool.or_eq_true]at hi;rcases hi with hi|hi
  ·exact(h1 i hi).mono λb V=>List.mem_append.2 (.inl V)
  ·exact(D i hi).mono λb V=>List.mem_append.2 (.inr V)
structure kH(N:vg A)(L:List A)(T:Int→Prop)(v:Int)(H:List A):Prop where
 sub:∀a∈H,a∈L
 pos:∀a∈L,0<N.cost a
 qJ:∀t,T t→eR N H v t
 min:∀K,(∀a∈K,a∈L)→(∀t,T t→eR N K v t)→gX N H≤gX N K
variable {L:List A}{T:Int→Prop}{v:Int}{H:List A}
theorem kH.need(h:kH N L T v H){a:A}(aC:a∈H)(aa:∀t,T t→eR N (H.erase a) v t):False:=by
 have h1:=h.min (H.erase a) (λb V=>h.sub b (List.mem_of_mem_erase V)) aa;have D:=Lq (N:=N) aC;have ak:=h.pos a (h.sub a aC);omega
theorem kH.once(h:kH N L T v H){a:A}(aC:a∈H):a∉H.erase a:=λD=>h.need aC λt bB=>(h.qJ t bB).mono λb V=>by
 by_cases s1:b=a
 ·rw[s1];exact D
 ·exact(List.mem_erase_of_ne s1).2 V
theorem TZ:∀{H:List A},(∀a∈H,a∉H.erase a)→H.Nodup
 |[],_=>List.nodup_nil
 |a::H,h=>by
  have aC:a∉H:=by have:=h a (by simp);rwa [List.erase_cons_head]at this
  refine List.nodup_cons.2 ⟨aC,TZ λb V fG=>?_⟩;have iN:a≠b:=λe=>aC (e▸V);refine h b (List.mem_cons.2 (.inr V)) ?_;rw[List.erase_cons_tail (by simpa using iN)];exact List.mem_cons.2 (.inr fG)
theorem kH.nodup(h:kH N L T v H):H.Nodup:=TZ λ_ aC=>h.once aC
theorem kH.Ak(h:kH N L T v H){a:A}(aC:a∈H):eR N H v (N.src a):=by
 apply Classical.byContradiction;intro aT;refine h.need aC λt bB=>?_
 have:∀{x t:Int},eR N H x t→eR N H v x→eR N (H.erase a) x t:=λ{x t} u=>by
  induction u with
  |refl v=>intro _;exact .refl v
  |step b V _ bD=>
   intro af;have s1:b≠a:=λe=>by subst e;exact aT af
   exact .step b ((List.mem_erase_of_ne s1).2 V) (bD (af.trans (.one V)))
 exact this (h.qJ t bB) (.refl v)
theorem kH.ends(h:kH N L T v H){a:A}(aC:a∈H):∃t,T t∧eR N H (N.dst a) t:=by
 apply Classical.byContradiction;intro aT;refine h.need aC λt bB=>?_
 have:∀{x t:Int},eR N H x t→¬eR N H (N.dst a) t→eR N (H.erase a) x t:=λ{x t} u=>by
  induction u with
  |refl v=>intro _;exact .refl v
  |step b V ax bD=>
   intro af;have s1:b≠a:=λe=>by subst e;exact af ax
   exact .step b ((List.mem_erase_of_ne s1).2 V) (bD af)
 exact this (h.qJ t bB) λaa=>aT ⟨t,bB,aa⟩
theorem Ua{a:A}(aa:eR N (H.erase a) v (N.dst a)){t:Int}(h:eR N H v t):eR N (H.erase a) v t:=by
 have:∀{x t:Int},eR N H x t→eR N (H.erase a) x t∨eR N (H.erase a) (N.dst a) t:=λ{x t} u=>by
  induction u with
  |refl v=>exact .inl (.refl v)
  |step b V _ bD=>
   rcases bD with bD|bD
   ·by_cases s1:b=a
    ·subst s1;exact .inr bD
    ·exact .inl (.step b ((List.mem_erase_of_ne s1).2 V) bD)
   ·exact .inr bD
 rcases this h with h|h
 ·exact h
 ·exact aa.trans h
theorem Nq{x y:Int}(h:eR N H x y):x=y∨∃e∈H,N.dst e=y∧eR N (H.filter λa=>!decide (N.dst a=y)) x (N.src e):=by
 induction h with
 |refl v=>exact .inl rfl
 |@step ay a aC ax bD=>
  by_cases ah:N.dst a=ay
  ·exact .inr ⟨a,aC,ah,.refl _⟩
  ·rcases bD with bD|⟨e,h1,D,ak⟩
   ·exact absurd bD ah
   ·exact .inr ⟨e,h1,D,.step a (List.mem_filter.2 ⟨aC,by simp[ah]⟩) ak⟩
theorem kH.root(h:kH N L T v H){a:A}(aC:a∈H):N.dst a≠v:=λe=>h.need aC λt bB=>Ua (by rw[e];exact .refl v) (h.qJ t bB)
theorem kH.dst(h:kH N L T v H){a b:A}(aC:a∈H)(V:b∈H)(he:N.dst a=N.dst b):a=b:=by
 apply Classical.byContradiction;intro iN;have ah:eR N H v (N.dst a):=(h.Ak aC).trans (.one aC);rcases Nq ah with h1|⟨e,h1,D,ak⟩
 ·exact h.root aC h1.symm
 ·have free:∀c,c∈H→N.dst c=N.dst a→e≠c→False:=λc aa Z agH=>by
   refine h.need aa λt bB=>Ua ?_ (h.qJ t bB);rw[Z]
   have hm:eR N (H.erase c) v (N.src e):=ak.mono λx u=>by
    obtain⟨ali,alj⟩:=List.mem_filter.1 u;refine(List.mem_erase_of_ne λahV=>?_).2 ali;subst ahV;simp[Z]at alj
   have lX:e∈H.erase c:=(List.mem_erase_of_ne agH).2 h1;have:=hm.trans (.one lX);rw[D]at this;exact this
  by_cases R5:e=a
  ·exact free b V he.symm (λagG=>iN (R5.symm.trans agG))
  ·exact free a aC rfl R5
end net2
end
end Go.Proofs.YtmnbolcmepihlaaGreat
