/- Plain: sets of fB aL lead from one iW to others, and the least aL wg can cost. No condition but aX aL stand in each. -/
import Derived.Test.YtmnbolcmepihlaaGreatB6
namespace Go.Proofs.YtmnbolcmepihlaaGreat
set_option linter.all false
open Go
structure Net(A:Type) where
 src:A→Int
 dst:A→Int
 cost:A→Int
section net
variable {A:Type}[DecidableEq A](N:Net A)
inductive Con(H:List A):Int→Int→Prop
 |refl (v:Int):Con H v v
 |step {u:Int} (a:A) (ha:a∈H) (h:Con H (N.dst a) u):Con H (N.src a) u
def dw(H:List A):Int:=(H.map N.cost).sum
variable {N}
theorem Con.mono{H K:List A}{v u:Int}(h:Con N H v u)(hs:∀a∈H,a∈K):Con N K v u:=by
 induction h with
 |refl v=>exact .refl v
 |step a ha _ ih=>exact .step a (hs a ha) ih
theorem Con.trans{H:List A}{v u t:Int}(h:Con N H v u)(h2:Con N H u t):Con N H v t:=by
 induction h with
 |refl v=>exact h2
 |step a ha _ ih=>exact .step a ha (ih h2)
theorem Con.one{H:List A}{a:A}(ha:a∈H):Con N H (N.src a) (N.dst a):=.step a ha (.refl _)
theorem aie(v:Int){H:List A}{x t:Int}(h:Con N H x t):Con N (H.filter λa=>!decide (N.src a=v)) x t∨∃e∈H,N.src e=v∧Con N (H.filter λa=>!decide (N.src a=v)) (N.dst e) t:=by
 induction h with
 |refl v=>exact .inl (.refl v)
 |step a ha _ ih=>
  rcases ih with ih|ih
  ·by_cases hv:N.src a=v
   ·exact .inr ⟨a,ha,hv,ih⟩
   ·exact .inl (.step a (List.mem_filter.2 ⟨ha,by simp[hv]⟩) ih)
  ·exact .inr ih
theorem wX{H:List A}{v t:Int}(h:Con N H v t)(hne:v≠t):∃e∈H,N.src e=v∧Con N (H.filter λa=>!decide (N.src a=v)) (N.dst e) t:=by
 rcases aie v h with h|h
 ·generalize hx:v=x at h;cases h with
  |refl _=>exact absurd hx hne
  |step a ha h=>
   have:=(List.mem_filter.1 ha).2;simp at this
 ·exact h
theorem gl(a:A)(H:List A):dw N (a::H)=N.cost a+dw N H:=by simp[dw]
theorem yq(H K:List A):dw N (H++K)=dw N H+dw N K:=by
 induction H with
 |nil=>simp[dw]
 |cons a H ih=>rw[List.cons_append,gl,gl,ih];omega
theorem tE{H:List A}(h:∀a∈H,0≤N.cost a):0≤dw N H:=by
 induction H with
 |nil=>simp[dw]
 |cons a H ih=>
  rw[gl];have h1:=h a (by simp);have h2:=ih λb hb=>h b (by simp[hb]);omega
theorem vo{e:A}:∀{H:List A},e∈H→dw N H=N.cost e+dw N (H.erase e)
 |[],h=>by cases h
 |a::H,h=>by
  by_cases ha:a=e
  ·subst ha;rw[List.erase_cons_head,gl]
  ·rw[List.erase_cons_tail (by simpa using ha),gl,gl,vo (H:=H) (by
    rcases List.mem_cons.1 h with h|h
    ·exact absurd h.symm ha
    ·exact h)]
   omega
theorem zR(p:A→Bool):∀(H:List A),dw N H=dw N (H.filter p)+dw N (H.filter λa=>!p a)
 |[]=>rfl
 |a::H=>by
  rw[gl,zR p H];cases hp:p a with
  |true=>rw[List.filter_cons_of_pos (by simp[hp]),List.filter_cons_of_neg (by simp[hp]),gl];omega
  |false=>rw[List.filter_cons_of_neg (by simp[hp]),List.filter_cons_of_pos (by simp[hp]),gl];omega
theorem aaE(p:Nat→Bool):∀k:Nat,∃m,m<2 ^ k∧∀i,m.testBit i=(decide (i<k)&&p i)
 |0=>⟨0,by simp,λi=>by simp⟩
 |k+1=>by
  obtain⟨m,h1,h2⟩:=aaE p k;refine⟨m ||| (if p k then 2 ^ k else 0),Nat.or_lt_two_pow (Nat.lt_of_lt_of_le h1 (Nat.pow_le_pow_right (by omega) (by omega))) (by split;exact Nat.pow_lt_pow_right (by omega) (by omega);exact Nat.two_pow_pos _),λi=>?_⟩;rw[Nat.testBit_or,h2];by_cases hi:i=k
  ·subst hi;cases hp:p i<;>simp
  ·have e:(if p k=true then 2 ^ k else 0).testBit i=false:=by
    split
    ·rw[Nat.testBit_two_pow];simp;omega
    ·simp
   rw[e];by_cases hl:i<k
   ·have:i<k+1:=by omega
    simp[hl,this]
   ·have:¬i<k+1:=by omega
    simp[hl,this]
theorem alK{S i:Nat}(h:S.testBit i=true):0<S:=by
 rcases Nat.eq_zero_or_pos S with h0|h0
 ·subst h0;simp at h
 ·exact h0
theorem vp{S:Nat}(h:0<S):∃i,S.testBit i=true:=by
 apply Classical.byContradiction;intro hn
 have:S=0:=Nat.eq_of_testBit_eq λi=>by
  cases hb:S.testBit i with
  |true=>exact absurd ⟨i,hb⟩ hn
  |false=>simp
 omega
theorem acX{S k i:Nat}(h:S<2 ^ k)(hb:S.testBit i=true):i<k:=by
 apply Classical.byContradiction;intro hn;rw[Nat.testBit_lt_two_pow (Nat.lt_of_lt_of_le h (Nat.pow_le_pow_right (by omega) (by omega)))]at hb;cases hb
theorem wY{S k:Nat}(hS:S<2 ^ k)(p:Nat→Bool):∃P R,P &&& R=0∧P ||| R=S∧(∀i,P.testBit i=(S.testBit i&&p i))∧∀i,R.testBit i=(S.testBit i&&!p i):=by
 obtain⟨P,_,h1⟩:=aaE (λi=>S.testBit i&&p i) k;obtain⟨R,_,h2⟩:=aaE (λi=>S.testBit i&&!p i) k
 have hk:∀i,(decide (i<k)&&S.testBit i)=S.testBit i:=λi=>by
  cases hb:S.testBit i with
  |true=>simp[acX hS hb]
  |false=>simp
 have q1:∀i,P.testBit i=(S.testBit i&&p i):=λi=>by rw[h1,←Bool.and_assoc,hk]
 have q2:∀i,R.testBit i=(S.testBit i&&!p i):=λi=>by rw[h2,←Bool.and_assoc,hk]
 refine⟨P,R,Nat.eq_of_testBit_eq λi=>?_,Nat.eq_of_testBit_eq λi=>?_,q1,q2⟩
 ·rw[Nat.testBit_and,q1,q2];cases S.testBit i<;>cases p i<;>simp
 ·rw[Nat.testBit_or,q1,q2];cases S.testBit i<;>cases p i<;>simp
theorem oN{S P R:Nat}(h0:P &&& R=0)(h:P ||| R=S)(hR:0<R):P<S:=by
 have h1:P≤S:=by rw[←h];exact Nat.left_le_or
 rcases Nat.lt_or_eq_of_le h1 with h2|h2
 ·exact h2
 ·obtain⟨i,hi⟩:=vp hR;have h3:(P ||| R).testBit i=P.testBit i:=by rw[h,h2]
  have h4:(P &&& R).testBit i=false:=by rw[h0];simp
  rw[Nat.testBit_or,hi]at h3;rw[Nat.testBit_and,hi]at h4;simp at h3 h4;rw[h4]at h3;cases h3
structure Low(N:Net A)(L:List A)(k:Nat)(ts:Nat→Int)(C:Nat→Int→Int):Prop where
 pos:∀a∈L,0≤N.cost a
 one:∀i,i<k→C (2 ^ i) (ts i)≤0
 hop:∀S,0<S→S<2 ^ k→∀a∈L,C S (N.src a)≤N.cost a+C S (N.dst a)
 part:∀S P R,S<2 ^ k→0<P→0<R→P &&& R=0→P ||| R=S→∀v,C S v≤C P v+C R v
theorem Low.le{L:List A}{k:Nat}{ts:Nat→Int}{C:Nat→Int→Int}(h:Low N L k ts C):∀(n:Nat) (H:List A),H.length≤n→(∀a∈H,a∈L)→∀(S:Nat),0<S→S<2 ^ k→∀v,(∀i,S.testBit i=true→Con N H v (ts i))→C S v≤dw N H:=by
 classical
 intro n;induction n with
 |zero=>
  intro H hn hL S;have hH:H=[]:=List.eq_nil_of_length_eq_zero (by omega);subst hH;induction S using Nat.strongRecOn with
  |_ S ihS=>
   intro hS hSk v hc;obtain⟨i,hi⟩:=vp hS;have hik:=acX hSk hi;have hv:v=ts i:=by
    have:=hc i hi;cases this with
    |refl _=>rfl
    |step a ha _=>cases ha
   obtain⟨P,R,q1,q2,q3,q4⟩:=wY hSk (λj=>decide (j=i))
   have hP:P=2 ^ i:=Nat.eq_of_testBit_eq λj=>by
    rw[q3,Nat.testBit_two_pow];by_cases hj:j=i
    ·subst hj;simp[hi]
    ·have:¬i=j:=λe=>hj e.symm;simp[hj,this]
   rcases Nat.eq_zero_or_pos R with hR|hR
   ·have:S=P:=by rw[←q2,hR];simp
    rw[this,hP,hv];have:=h.one i hik;simpa [dw]using this
   ·have h1:=h.part S P R hSk (by rw[hP];exact Nat.two_pow_pos _) hR q1 q2 v;have h2:=ihS R (oN (by rw[Nat.and_comm];exact q1) (by rw[Nat.or_comm];exact q2) (by rw[hP];exact Nat.two_pow_pos _)) hR (by have:R≤S:=by{rw[←q2];exact Nat.right_le_or};omega) v (λj hj=>hc j (by rw[q4]at hj;simp at hj;exact hj.1));have h3:=h.one i hik;rw[←hv,←hP]at h3;omega
 |succ n ih=>
  intro H hn hL S;have hpos:0≤dw N H:=tE λa ha=>h.pos a (hL a ha);induction S using Nat.strongRecOn with
  |_ S ihS=>
   intro hS hSk v hc;by_cases hat:∃i,S.testBit i=true∧ts i=v
   ·obtain⟨i,hi,hv⟩:=hat;have hik:=acX hSk hi;obtain⟨P,R,q1,q2,q3,q4⟩:=wY hSk (λj=>decide (j=i))
    have hP:P=2 ^ i:=Nat.eq_of_testBit_eq λj=>by
     rw[q3,Nat.testBit_two_pow];by_cases hj:j=i
     ·subst hj;simp[hi]
     ·have:¬i=j:=λe=>hj e.symm;simp[hj,this]
    have h3:=h.one i hik;rw[hv,←hP]at h3;rcases Nat.eq_zero_or_pos R with hR|hR
    ·have:S=P:=by rw[←q2,hR];simp
     rw[this];omega
    ·have h1:=h.part S P R hSk (by rw[hP];exact Nat.two_pow_pos _) hR q1 q2 v;have h2:=ihS R (oN (by rw[Nat.and_comm];exact q1) (by rw[Nat.or_comm];exact q2) (by rw[hP];exact Nat.two_pow_pos _)) hR (by have:R≤S:=by{rw[←q2];exact Nat.right_le_or};omega) v (λj hj=>hc j (by rw[q4]at hj;simp at hj;exact hj.1));omega
   ·have hno:∀i,S.testBit i=true→v≠ts i:=λi hi e=>hat ⟨i,hi,e.symm⟩;obtain⟨i0,hi0⟩:=vp hS;obtain⟨e,he,hev,heu⟩:=wX (hc i0 hi0) (hno i0 hi0)
    have hfe:∀a∈H.filter (λa=>!decide (N.src a=v)),a∈H.erase e:=λa ha=>by
     obtain⟨h1,h2⟩:=List.mem_filter.1 ha;refine(List.mem_erase_of_ne λhae=>?_).2 h1;subst hae;simp[hev]at h2
    have hu0:=heu.mono hfe;have hsub:∀a∈H.erase e,a∈L:=λa ha=>hL a (List.mem_of_mem_erase ha);have hlen:(H.erase e).length≤n:=by rw[List.length_erase_of_mem he];omega
    have apv:=vo (N:=N) he;obtain⟨P,R,q1,q2,q3,q4⟩:=wY hSk (λi=>decide (Con N (H.erase e) (N.dst e) (ts i)));have hPi:P.testBit i0=true:=by rw[q3];simp[hi0,hu0]
    have hPp:=alK hPi;rcases Nat.eq_zero_or_pos R with hR|hR
    ·have h1:=ih (H.erase e) hlen hsub S hS hSk (N.dst e) (λi hi=>by
      have hq:=q4 i;rw[hR,hi]at hq;simp at hq;exact hq)
     have h2:=h.hop S hS hSk e (hL e he);rw[hev]at h2;omega
    ·let q:A→Bool:=λa=>decide (Con N (H.erase e) (N.dst e) (N.src a))
     have hPS:P<S:=oN q1 q2 hR;have hRS:R<S:=oN (by rw[Nat.and_comm];exact q1) (by rw[Nat.or_comm];exact q2) hPp
     have stay:∀{x t:Int},Con N (H.erase e) x t→Con N (H.erase e) (N.dst e) x→Con N ((H.erase e).filter q) x t:=λ{x t} hx=>by
      induction hx with
      |refl v=>intro _;exact .refl v
      |step a ha _ ih=>intro hu;exact .step a (List.mem_filter.2 ⟨ha,decide_eq_true hu⟩) (ih (hu.trans (.one ha)))
     have off:∀{x t:Int},Con N (H.erase e) x t→¬Con N (H.erase e) (N.dst e) t→Con N ((H.erase e).filter λa=>!q a) x t:=λ{x t} hx=>by
      induction hx with
      |refl v=>intro _;exact .refl v
      |step a ha hr ih=>
       intro hu;refine .step a (List.mem_filter.2 ⟨ha,?_⟩) (ih hu);have:¬Con N (H.erase e) (N.dst e) (N.src a):=λhq=>hu (hq.trans (.step a ha hr));simp only[q,this,decide_false,Bool.not_false]
     have h1:=h.part S P R hSk hPp hR q1 q2 v;have hsp:=zR (N:=N) q (H.erase e);have h4:dw N (e::(H.erase e).filter q)=N.cost e+dw N ((H.erase e).filter q):=gl _ _;have h2:C P v≤dw N (e::(H.erase e).filter q):=by
      by_cases hless:(e::(H.erase e).filter q).length≤n
      ·refine ih _ hless (λa ha=>?_) P hPp (by omega) v λi hi=>?_
       ·rcases List.mem_cons.1 ha with rfl|ha
        ·exact hL _ he
        ·exact hsub a (List.mem_filter.1 ha).1
       ·rw[q3]at hi;simp only[Bool.and_eq_true,decide_eq_true_eq]at hi;rw[←hev];exact .step e (by simp) ((stay hi.2 (.refl _)).mono λa ha=>List.mem_cons.2 (.inr ha))
      ·
       have hall:dw N ((H.erase e).filter q)=dw N (H.erase e):=by
        have hfl:=List.length_filter_le q (H.erase e);have he2:=List.length_erase_of_mem he;have hle:(H.erase e).length≤((H.erase e).filter q).length:=by
         simp only[List.length_cons]at hless;omega
        rw[List.filter_eq_self.2 (List.length_filter_eq_length_iff.1 (by omega))]
       have h5:=ihS P hPS hPp (by omega) v (λi hi=>hc i (by rw[q3]at hi;simp at hi;exact hi.1));omega
     have h3:C R v≤dw N ((H.erase e).filter λa=>!q a):=by
      refine ih _ (Nat.le_trans (List.length_filter_le _ _) hlen) (λa ha=>hsub a (List.mem_filter.1 ha).1) R hR (by omega) v λi hi=>?_;rw[q4]at hi;simp only[Bool.and_eq_true,Bool.not_eq_true',decide_eq_false_iff_not]at hi;obtain⟨e2,h21,h22,h23⟩:=wX (hc i hi.1) (hno i hi.1);have h24:=h23.mono hfe;have hne:e2≠e:=λh=>by subst h;exact hi.2 h24
      have h25:e2∈H.erase e:=(List.mem_erase_of_ne hne).2 h21;refine off ?_ hi.2;rw[←h22];exact .step e2 h25 h24
     omega
end net
end Go.Proofs.YtmnbolcmepihlaaGreat
