/- Several texts in one. No condition but those that stand in each. -/
import Derived.Test.YtmnbolcmepihlaaGreatB6
namespace Go.Proofs.YtmnbolcmepihlaaGreat
set_option linter.all false
open Go
section
structure Net(A:Type) where
 src:A→Int
 dst:A→Int
 cost:A→Int
section net
variable {A:Type}[DecidableEq A](N:Net A)
inductive Con(H:List A):Int→Int→Prop
 |refl (v:Int):Con H v v
 |step {u:Int} (a:A) (ha:a∈H) (h:Con H (N.dst a) u):Con H (N.src a) u
def dG(H:List A):Int:=(H.map N.cost).sum
variable {N}
theorem Con.mono{H K:List A}{v u:Int}(h:Con N H v u)(hs:∀a∈H,a∈K):Con N K v u:=by
 induction h with
 |refl v=>exact .refl v
 |step a ha _ ih=>exact .step a (hs a ha) ih
theorem Con.trans{H:List A}{v u t:Int}(h:Con N H v u)(h2:Con N H u t):Con N H v t:=by
 induction h with
 |refl v=>exact h2
 |step a ha _ ih=>exact .step a ha (ih h2)
theorem Con.one{H:List A}{a:A}(ha:a∈H):Con N H (N.src a) (N.dst a):=.step a ha (.refl _)
theorem aiu(v:Int){H:List A}{x t:Int}(h:Con N H x t):Con N (H.filter λa=>!decide (N.src a=v)) x t∨∃e∈H,N.src e=v∧Con N (H.filter λa=>!decide (N.src a=v)) (N.dst e) t:=by
 induction h with
 |refl v=>exact .inl (.refl v)
 |step a ha _ ih=>
  rcases ih with ih|ih
  ·by_cases hv:N.src a=v
   ·exact .inr ⟨a,ha,hv,ih⟩
   ·exact .inl (.step a (List.mem_filter.2 ⟨ha,by simp[hv]⟩) ih)
  ·exact .inr ih
theorem aby{H:List A}{v t:Int}(h:Con N H v t)(hne:v≠t):∃e∈H,N.src e=v∧Con N (H.filter λa=>!decide (N.src a=v)) (N.dst e) t:=by
 rcases aiu v h with h|h
 ·generalize hx:v=x at h;cases h with
  |refl _=>exact absurd hx hne
  |step a ha h=>
   have:=(List.mem_filter.1 ha).2;simp at this
 ·exact h
theorem gu(a:A)(H:List A):dG N (a::H)=N.cost a+dG N H:=by simp[dG]
theorem yy(H K:List A):dG N (H++K)=dG N H+dG N K:=by
 induction H with
 |nil=>simp[dG]
 |cons a H ih=>rw[List.cons_append,gu,gu,ih];omega
theorem tT{H:List A}(h:∀a∈H,0≤N.cost a):0≤dG N H:=by
 induction H with
 |nil=>simp[dG]
 |cons a H ih=>
  rw[gu];have h1:=h a (by simp);have h2:=ih λb hb=>h b (by simp[hb]);omega
theorem vE{e:A}:∀{H:List A},e∈H→dG N H=N.cost e+dG N (H.erase e)
 |[],h=>by cases h
 |a::H,h=>by
  by_cases ha:a=e
  ·subst ha;rw[List.erase_cons_head,gu]
  ·rw[List.erase_cons_tail (by simpa using ha),gu,gu,vE (H:=H) (by
    rcases List.mem_cons.1 h with h|h
    ·exact absurd h.symm ha
    ·exact h)]
   omega
theorem z8(p:A→Bool):∀(H:List A),dG N H=dG N (H.filter p)+dG N (H.filter λa=>!p a)
 |[]=>rfl
 |a::H=>by
  rw[gu,z8 p H];cases hp:p a with
  |true=>rw[List.filter_cons_of_pos (by simp[hp]),List.filter_cons_of_neg (by simp[hp]),gu];omega
  |false=>rw[List.filter_cons_of_neg (by simp[hp]),List.filter_cons_of_pos (by simp[hp]),gu];omega
theorem aaM(p:Nat→Bool):∀k:Nat,∃m,m<2 ^ k∧∀i,m.testBit i=(decide (i<k)&&p i)
 |0=>⟨0,by simp,λi=>by simp⟩
 |k+1=>by
  obtain⟨m,h1,h2⟩:=aaM p k;refine⟨m ||| (if p k then 2 ^ k else 0),Nat.or_lt_two_pow (Nat.lt_of_lt_of_le h1 (Nat.pow_le_pow_right (by omega) (by omega))) (by split;exact Nat.pow_lt_pow_right (by omega) (by omega);exact Nat.two_pow_pos _),λi=>?_⟩;rw[Nat.testBit_or,h2];by_cases hi:i=k
  ·subst hi;cases hp:p i<;>simp
  ·have e:(if p k=true then 2 ^ k else 0).testBit i=false:=by
    split
    ·rw[Nat.testBit_two_pow];simp;omega
    ·simp
   rw[e];by_cases hl:i<k
   ·have:i<k+1:=by omega
    simp[hl,this]
   ·have:¬i<k+1:=by omega
    simp[hl,this]
theorem alN{S i:Nat}(h:S.testBit i=true):0<S:=by
 rcases Nat.eq_zero_or_pos S with h0|h0
 ·subst h0;simp at h
 ·exact h0
theorem vF{S:Nat}(h:0<S):∃i,S.testBit i=true:=by
 apply Classical.byContradiction;intro hn
 have:S=0:=Nat.eq_of_testBit_eq λi=>by
  cases hb:S.testBit i with
  |true=>exact absurd ⟨i,hb⟩ hn
  |false=>simp
 omega
theorem ac0{S k i:Nat}(h:S<2 ^ k)(hb:S.testBit i=true):i<k:=by
 apply Classical.byContradiction;intro hn;rw[Nat.testBit_lt_two_pow (Nat.lt_of_lt_of_le h (Nat.pow_le_pow_right (by omega) (by omega)))]at hb;cases hb
theorem w8{S k:Nat}(hS:S<2 ^ k)(p:Nat→Bool):∃P R,P &&& R=0∧P ||| R=S∧(∀i,P.testBit i=(S.testBit i&&p i))∧∀i,R.testBit i=(S.testBit i&&!p i):=by
 obtain⟨P,_,h1⟩:=aaM (λi=>S.testBit i&&p i) k;obtain⟨R,_,h2⟩:=aaM (λi=>S.testBit i&&!p i) k
 have hk:∀i,(decide (i<k)&&S.testBit i)=S.testBit i:=λi=>by
  cases hb:S.testBit i with
  |true=>simp[ac0 hS hb]
  |false=>simp
 have q1:∀i,P.testBit i=(S.testBit i&&p i):=λi=>by rw[h1,←Bool.and_assoc,hk]
 have q2:∀i,R.testBit i=(S.testBit i&&!p i):=λi=>by rw[h2,←Bool.and_assoc,hk]
 refine⟨P,R,Nat.eq_of_testBit_eq λi=>?_,Nat.eq_of_testBit_eq λi=>?_,q1,q2⟩
 ·rw[Nat.testBit_and,q1,q2];cases S.testBit i<;>cases p i<;>simp
 ·rw[Nat.testBit_or,q1,q2];cases S.testBit i<;>cases p i<;>simp
theorem o5{S P R:Nat}(h0:P &&& R=0)(h:P ||| R=S)(hR:0<R):P<S:=by
 have h1:P≤S:=by rw[←h];exact Nat.left_le_or
 rcases Nat.lt_or_eq_of_le h1 with h2|h2
 ·exact h2
 ·obtain⟨i,hi⟩:=vF hR;have h3:(P ||| R).testBit i=P.testBit i:=by rw[h,h2]
  have h4:(P &&& R).testBit i=false:=by rw[h0];simp
  rw[Nat.testBit_or,hi]at h3;rw[Nat.testBit_and,hi]at h4;simp at h3 h4;rw[h4]at h3;cases h3
structure Low(N:Net A)(L:List A)(k:Nat)(ts:Nat→Int)(C:Nat→Int→Int):Prop where
 pos:∀a∈L,0≤N.cost a
 one:∀i,i<k→C (2 ^ i) (ts i)≤0
 hop:∀S,0<S→S<2 ^ k→∀a∈L,C S (N.src a)≤N.cost a+C S (N.dst a)
 part:∀S P R,S<2 ^ k→0<P→0<R→P &&& R=0→P ||| R=S→∀v,C S v≤C P v+C R v
theorem Low.le{L:List A}{k:Nat}{ts:Nat→Int}{C:Nat→Int→Int}(h:Low N L k ts C):∀(n:Nat) (H:List A),H.length≤n→(∀a∈H,a∈L)→∀(S:Nat),0<S→S<2 ^ k→∀v,(∀i,S.testBit i=true→Con N H v (ts i))→C S v≤dG N H:=by
 classical
 intro n;induction n with
 |zero=>
  intro H hn hL S;have hH:H=[]:=List.eq_nil_of_length_eq_zero (by omega);subst hH;induction S using Nat.strongRecOn with
  |_ S ihS=>
   intro hS hSk v hc;obtain⟨i,hi⟩:=vF hS;have hik:=ac0 hSk hi;have hv:v=ts i:=by
    have:=hc i hi;cases this with
    |refl _=>rfl
    |step a ha _=>cases ha
   obtain⟨P,R,q1,q2,q3,q4⟩:=w8 hSk (λj=>decide (j=i))
   have hP:P=2 ^ i:=Nat.eq_of_testBit_eq λj=>by
    rw[q3,Nat.testBit_two_pow];by_cases hj:j=i
    ·subst hj;simp[hi]
    ·have:¬i=j:=λe=>hj e.symm;simp[hj,this]
   rcases Nat.eq_zero_or_pos R with hR|hR
   ·have:S=P:=by rw[←q2,hR];simp
    rw[this,hP,hv];have:=h.one i hik;simpa [dG]using this
   ·have h1:=h.part S P R hSk (by rw[hP];exact Nat.two_pow_pos _) hR q1 q2 v;have h2:=ihS R (o5 (by rw[Nat.and_comm];exact q1) (by rw[Nat.or_comm];exact q2) (by rw[hP];exact Nat.two_pow_pos _)) hR (by have:R≤S:=by{rw[←q2];exact Nat.right_le_or};omega) v (λj hj=>hc j (by rw[q4]at hj;simp at hj;exact hj.1));have h3:=h.one i hik;rw[←hv,←hP]at h3;omega
 |succ n ih=>
  intro H hn hL S;have hpos:0≤dG N H:=tT λa ha=>h.pos a (hL a ha);induction S using Nat.strongRecOn with
  |_ S ihS=>
   intro hS hSk v hc;by_cases hat:∃i,S.testBit i=true∧ts i=v
   ·obtain⟨i,hi,hv⟩:=hat;have hik:=ac0 hSk hi;obtain⟨P,R,q1,q2,q3,q4⟩:=w8 hSk (λj=>decide (j=i))
    have hP:P=2 ^ i:=Nat.eq_of_testBit_eq λj=>by
     rw[q3,Nat.testBit_two_pow];by_cases hj:j=i
     ·subst hj;simp[hi]
     ·have:¬i=j:=λe=>hj e.symm;simp[hj,this]
    have h3:=h.one i hik;rw[hv,←hP]at h3;rcases Nat.eq_zero_or_pos R with hR|hR
    ·have:S=P:=by rw[←q2,hR];simp
     rw[this];omega
    ·have h1:=h.part S P R hSk (by rw[hP];exact Nat.two_pow_pos _) hR q1 q2 v;have h2:=ihS R (o5 (by rw[Nat.and_comm];exact q1) (by rw[Nat.or_comm];exact q2) (by rw[hP];exact Nat.two_pow_pos _)) hR (by have:R≤S:=by{rw[←q2];exact Nat.right_le_or};omega) v (λj hj=>hc j (by rw[q4]at hj;simp at hj;exact hj.1));omega
   ·have hno:∀i,S.testBit i=true→v≠ts i:=λi hi e=>hat ⟨i,hi,e.symm⟩;obtain⟨i0,hi0⟩:=vF hS;obtain⟨e,he,hev,heu⟩:=aby (hc i0 hi0) (hno i0 hi0)
    have hfe:∀a∈H.filter (λa=>!decide (N.src a=v)),a∈H.erase e:=λa ha=>by
     obtain⟨h1,h2⟩:=List.mem_filter.1 ha;refine(List.mem_erase_of_ne λhae=>?_).2 h1;subst hae;simp[hev]at h2
    have hu0:=heu.mono hfe;have hsub:∀a∈H.erase e,a∈L:=λa ha=>hL a (List.mem_of_mem_erase ha);have hlen:(H.erase e).length≤n:=by rw[List.length_erase_of_mem he];omega
    have apy:=vE (N:=N) he;obtain⟨P,R,q1,q2,q3,q4⟩:=w8 hSk (λi=>decide (Con N (H.erase e) (N.dst e) (ts i)));have hPi:P.testBit i0=true:=by rw[q3];simp[hi0,hu0]
    have hPp:=alN hPi;rcases Nat.eq_zero_or_pos R with hR|hR
    ·have h1:=ih (H.erase e) hlen hsub S hS hSk (N.dst e) (λi hi=>by
      have hq:=q4 i;rw[hR,hi]at hq;simp at hq;exact hq)
     have h2:=h.hop S hS hSk e (hL e he);rw[hev]at h2;omega
    ·let q:A→Bool:=λa=>decide (Con N (H.erase e) (N.dst e) (N.src a))
     have hPS:P<S:=o5 q1 q2 hR;have hRS:R<S:=o5 (by rw[Nat.and_comm];exact q1) (by rw[Nat.or_comm];exact q2) hPp
     have stay:∀{x t:Int},Con N (H.erase e) x t→Con N (H.erase e) (N.dst e) x→Con N ((H.erase e).filter q) x t:=λ{x t} hx=>by
      induction hx with
      |refl v=>intro _;exact .refl v
      |step a ha _ ih=>intro hu;exact .step a (List.mem_filter.2 ⟨ha,decide_eq_true hu⟩) (ih (hu.trans (.one ha)))
     have off:∀{x t:Int},Con N (H.erase e) x t→¬Con N (H.erase e) (N.dst e) t→Con N ((H.erase e).filter λa=>!q a) x t:=λ{x t} hx=>by
      induction hx with
      |refl v=>intro _;exact .refl v
      |step a ha hr ih=>
       intro hu;refine .step a (List.mem_filter.2 ⟨ha,?_⟩) (ih hu);have:¬Con N (H.erase e) (N.dst e) (N.src a):=λhq=>hu (hq.trans (.step a ha hr));simp only[q,this,decide_false,Bool.not_false]
     have h1:=h.part S P R hSk hPp hR q1 q2 v;have hsp:=z8 (N:=N) q (H.erase e);have h4:dG N (e::(H.erase e).filter q)=N.cost e+dG N ((H.erase e).filter q):=gu _ _;have h2:C P v≤dG N (e::(H.erase e).filter q):=by
      by_cases hless:(e::(H.erase e).filter q).length≤n
      ·refine ih _ hless (λa ha=>?_) P hPp (by omega) v λi hi=>?_
       ·rcases List.mem_cons.1 ha with rfl|ha
        ·exact hL _ he
        ·exact hsub a (List.mem_filter.1 ha).1
       ·rw[q3]at hi;simp only[Bool.and_eq_true,decide_eq_true_eq]at hi;rw[←hev];exact .step e (by simp) ((stay hi.2 (.refl _)).mono λa ha=>List.mem_cons.2 (.inr ha))
      ·
       have hall:dG N ((H.erase e).filter q)=dG N (H.erase e):=by
        have hfl:=List.length_filter_le q (H.erase e);have he2:=List.length_erase_of_mem he;have hle:(H.erase e).length≤((H.erase e).filter q).length:=by
         simp only[List.length_cons]at hless;omega
        rw[List.filter_eq_self.2 (List.length_filter_eq_length_iff.1 (by omega))]
       have h5:=ihS P hPS hPp (by omega) v (λi hi=>hc i (by rw[q3]at hi;simp at hi;exact hi.1));omega
     have h3:C R v≤dG N ((H.erase e).filter λa=>!q a):=by
      refine ih _ (Nat.le_trans (List.length_filter_le _ _) hlen) (λa ha=>hsub a (List.mem_filter.1 ha).1) R hR (by omega) v λi hi=>?_;rw[q4]at hi;simp only[Bool.and_eq_true,Bool.not_eq_true',decide_eq_false_iff_not]at hi;obtain⟨e2,h21,h22,h23⟩:=aby (hc i hi.1) (hno i hi.1);have h24:=h23.mono hfe;have hne:e2≠e:=λh=>by subst h;exact hi.2 h24
      have h25:e2∈H.erase e:=(List.mem_erase_of_ne hne).2 h21;refine off ?_ hi.2;rw[←h22];exact .step e2 h25 h24
     omega
end net
end
section
section net2
variable {A:Type}[DecidableEq A]{N:Net A}
inductive Trk(N:Net A)(L:List A)(k:Nat)(ts:Nat→Int):Nat→Int→List A→Prop
 |one (i:Nat):i<k→Trk N L k ts (2 ^ i) (ts i) []
 |hop {S:Nat} {H:List A} (a:A):a∈L→Trk N L k ts S (N.dst a) H→Trk N L k ts S (N.src a) (a::H)
 |part {P R:Nat} {v:Int} {H K:List A}:P &&& R=0→Trk N L k ts P v H→Trk N L k ts R v K→Trk N L k ts (P ||| R) v (H++K)
theorem Trk.sub{L:List A}{k:Nat}{ts:Nat→Int}{S:Nat}{v:Int}{H:List A}(h:Trk N L k ts S v H):∀a∈H,a∈L:=by
 induction h with
 |one i _=>intro a ha;cases ha
 |hop a ha _ ih=>
  intro b hb;rcases List.mem_cons.1 hb with rfl|hb
  ·exact ha
  ·exact ih b hb
 |part _ _ _ h1 h2=>
  intro b hb;rcases List.mem_append.1 hb with hb|hb
  ·exact h1 b hb
  ·exact h2 b hb
theorem Trk.cov{L:List A}{k:Nat}{ts:Nat→Int}{S:Nat}{v:Int}{H:List A}(h:Trk N L k ts S v H):∀i,S.testBit i=true→Con N H v (ts i):=by
 induction h with
 |one i _=>
  intro j hj;rw[Nat.testBit_two_pow]at hj;have:i=j:=by simpa using hj
  subst this;exact .refl _
 |hop a ha _ ih=>exact λi hi=>.step a (by simp) ((ih i hi).mono λb hb=>List.mem_cons.2 (.inr hb))
 |part _ _ _ h1 h2=>
  intro i hi;rw[Nat.testBit_or,Bool.or_eq_true]at hi;rcases hi with hi|hi
  ·exact(h1 i hi).mono λb hb=>List.mem_append.2 (.inl hb)
  ·exact(h2 i hi).mono λb hb=>List.mem_append.2 (.inr hb)
structure Opt(N:Net A)(L:List A)(T:Int→Prop)(v:Int)(H:List A):Prop where
 sub:∀a∈H,a∈L
 pos:∀a∈L,0<N.cost a
 cov:∀t,T t→Con N H v t
 min:∀K,(∀a∈K,a∈L)→(∀t,T t→Con N K v t)→dG N H≤dG N K
variable {L:List A}{T:Int→Prop}{v:Int}{H:List A}
theorem Opt.need(h:Opt N L T v H){a:A}(ha:a∈H)(hc:∀t,T t→Con N (H.erase a) v t):False:=by
 have h1:=h.min (H.erase a) (λb hb=>h.sub b (List.mem_of_mem_erase hb)) hc;have h2:=vE (N:=N) ha;have h3:=h.pos a (h.sub a ha);omega
theorem Opt.once(h:Opt N L T v H){a:A}(ha:a∈H):a∉H.erase a:=λh2=>h.need ha λt ht=>(h.cov t ht).mono λb hb=>by
 by_cases hba:b=a
 ·rw[hba];exact h2
 ·exact(List.mem_erase_of_ne hba).2 hb
theorem yz:∀{H:List A},(∀a∈H,a∉H.erase a)→H.Nodup
 |[],_=>List.nodup_nil
 |a::H,h=>by
  have ha:a∉H:=by have:=h a (by simp);rwa [List.erase_cons_head]at this
  refine List.nodup_cons.2 ⟨ha,yz λb hb hb2=>?_⟩;have hab:a≠b:=λe=>ha (e▸hb);refine h b (List.mem_cons.2 (.inr hb)) ?_;rw[List.erase_cons_tail (by simpa using hab)];exact List.mem_cons.2 (.inr hb2)
theorem Opt.nodup(h:Opt N L T v H):H.Nodup:=yz λ_ ha=>h.once ha
theorem Opt.rch(h:Opt N L T v H){a:A}(ha:a∈H):Con N H v (N.src a):=by
 apply Classical.byContradiction;intro hn;refine h.need ha λt ht=>?_
 have:∀{x t:Int},Con N H x t→Con N H v x→Con N (H.erase a) x t:=λ{x t} hx=>by
  induction hx with
  |refl v=>intro _;exact .refl v
  |step b hb _ ih=>
   intro hv;have hba:b≠a:=λe=>by subst e;exact hn hv
   exact .step b ((List.mem_erase_of_ne hba).2 hb) (ih (hv.trans (.one hb)))
 exact this (h.cov t ht) (.refl v)
theorem Opt.ends(h:Opt N L T v H){a:A}(ha:a∈H):∃t,T t∧Con N H (N.dst a) t:=by
 apply Classical.byContradiction;intro hn;refine h.need ha λt ht=>?_
 have:∀{x t:Int},Con N H x t→¬Con N H (N.dst a) t→Con N (H.erase a) x t:=λ{x t} hx=>by
  induction hx with
  |refl v=>intro _;exact .refl v
  |step b hb hr ih=>
   intro hv;have hba:b≠a:=λe=>by subst e;exact hv hr
   exact .step b ((List.mem_erase_of_ne hba).2 hb) (ih hv)
 exact this (h.cov t ht) λhc=>hn ⟨t,ht,hc⟩
theorem aaa{a:A}(hc:Con N (H.erase a) v (N.dst a)){t:Int}(h:Con N H v t):Con N (H.erase a) v t:=by
 have:∀{x t:Int},Con N H x t→Con N (H.erase a) x t∨Con N (H.erase a) (N.dst a) t:=λ{x t} hx=>by
  induction hx with
  |refl v=>exact .inl (.refl v)
  |step b hb _ ih=>
   rcases ih with ih|ih
   ·by_cases hba:b=a
    ·subst hba;exact .inr ih
    ·exact .inl (.step b ((List.mem_erase_of_ne hba).2 hb) ih)
   ·exact .inr ih
 rcases this h with h|h
 ·exact h
 ·exact hc.trans h
theorem ac1{x y:Int}(h:Con N H x y):x=y∨∃e∈H,N.dst e=y∧Con N (H.filter λa=>!decide (N.dst a=y)) x (N.src e):=by
 induction h with
 |refl v=>exact .inl rfl
 |@step u a ha hr ih=>
  by_cases hy:N.dst a=u
  ·exact .inr ⟨a,ha,hy,.refl _⟩
  ·rcases ih with ih|⟨e,h1,h2,h3⟩
   ·exact absurd ih hy
   ·exact .inr ⟨e,h1,h2,.step a (List.mem_filter.2 ⟨ha,by simp[hy]⟩) h3⟩
theorem Opt.root(h:Opt N L T v H){a:A}(ha:a∈H):N.dst a≠v:=λe=>h.need ha λt ht=>aaa (by rw[e];exact .refl v) (h.cov t ht)
theorem Opt.dst(h:Opt N L T v H){a b:A}(ha:a∈H)(hb:b∈H)(he:N.dst a=N.dst b):a=b:=by
 apply Classical.byContradiction;intro hab;have hy:Con N H v (N.dst a):=(h.rch ha).trans (.one ha);rcases ac1 hy with h1|⟨e,h1,h2,h3⟩
 ·exact h.root ha h1.symm
 ·have free:∀c,c∈H→N.dst c=N.dst a→e≠c→False:=λc hc hd hec=>by
   refine h.need hc λt ht=>aaa ?_ (h.cov t ht);rw[hd]
   have hm:Con N (H.erase c) v (N.src e):=h3.mono λx hx=>by
    obtain⟨x1,x2⟩:=List.mem_filter.1 hx;refine(List.mem_erase_of_ne λhxc=>?_).2 x1;subst hxc;simp[hd]at x2
   have he2:e∈H.erase c:=(List.mem_erase_of_ne hec).2 h1;have:=hm.trans (.one he2);rw[h2]at this;exact this
  by_cases hea:e=a
  ·exact free b hb he.symm (λheb=>hab (hea.symm.trans heb))
  ·exact free a ha rfl hea
end net2
end
end Go.Proofs.YtmnbolcmepihlaaGreat
