/- Plain: fB aL cost least are a tree. No condition but aX aL stand in each. -/
import Derived.Test.YtmnbolcmepihlaaGreatWA
namespace Go.Proofs.YtmnbolcmepihlaaGreat
set_option linter.all false
open Go
section net2
variable {A:Type}[DecidableEq A]{N:Net A}
inductive Trk(N:Net A)(L:List A)(k:Nat)(ts:Nat→Int):Nat→Int→List A→Prop
 |one (i:Nat):i<k→Trk N L k ts (2 ^ i) (ts i) []
 |hop {S:Nat} {H:List A} (a:A):a∈L→Trk N L k ts S (N.dst a) H→Trk N L k ts S (N.src a) (a::H)
 |part {P R:Nat} {v:Int} {H K:List A}:P &&& R=0→Trk N L k ts P v H→Trk N L k ts R v K→Trk N L k ts (P ||| R) v (H++K)
theorem Trk.sub{L:List A}{k:Nat}{ts:Nat→Int}{S:Nat}{v:Int}{H:List A}(h:Trk N L k ts S v H):∀a∈H,a∈L:=by
 induction h with
 |one i _=>intro a ha;cases ha
 |hop a ha _ ih=>
  intro b hb;rcases List.mem_cons.1 hb with rfl|hb
  ·exact ha
  ·exact ih b hb
 |part _ _ _ h1 h2=>
  intro b hb;rcases List.mem_append.1 hb with hb|hb
  ·exact h1 b hb
  ·exact h2 b hb
theorem Trk.cov{L:List A}{k:Nat}{ts:Nat→Int}{S:Nat}{v:Int}{H:List A}(h:Trk N L k ts S v H):∀i,S.testBit i=true→Con N H v (ts i):=by
 induction h with
 |one i _=>
  intro j hj;rw[Nat.testBit_two_pow]at hj;have:i=j:=by simpa using hj
  subst this;exact .refl _
 |hop a ha _ ih=>exact λi hi=>.step a (by simp) ((ih i hi).mono λb hb=>List.mem_cons.2 (.inr hb))
 |part _ _ _ h1 h2=>
  intro i hi;rw[Nat.testBit_or,Bool.or_eq_true]at hi;rcases hi with hi|hi
  ·exact(h1 i hi).mono λb hb=>List.mem_append.2 (.inl hb)
  ·exact(h2 i hi).mono λb hb=>List.mem_append.2 (.inr hb)
structure Opt(N:Net A)(L:List A)(T:Int→Prop)(v:Int)(H:List A):Prop where
 sub:∀a∈H,a∈L
 pos:∀a∈L,0<N.cost a
 cov:∀t,T t→Con N H v t
 min:∀K,(∀a∈K,a∈L)→(∀t,T t→Con N K v t)→dw N H≤dw N K
variable {L:List A}{T:Int→Prop}{v:Int}{H:List A}
theorem Opt.need(h:Opt N L T v H){a:A}(ha:a∈H)(hc:∀t,T t→Con N (H.erase a) v t):False:=by
 have h1:=h.min (H.erase a) (λb hb=>h.sub b (List.mem_of_mem_erase hb)) hc;have h2:=vo (N:=N) ha;have h3:=h.pos a (h.sub a ha);omega
theorem Opt.once(h:Opt N L T v H){a:A}(ha:a∈H):a∉H.erase a:=λh2=>h.need ha λt ht=>(h.cov t ht).mono λb hb=>by
 by_cases hba:b=a
 ·rw[hba];exact h2
 ·exact(List.mem_erase_of_ne hba).2 hb
theorem yt:∀{H:List A},(∀a∈H,a∉H.erase a)→H.Nodup
 |[],_=>List.nodup_nil
 |a::H,h=>by
  have ha:a∉H:=by have:=h a (by simp);rwa [List.erase_cons_head]at this
  refine List.nodup_cons.2 ⟨ha,yt λb hb hb2=>?_⟩;have hab:a≠b:=λe=>ha (e▸hb);refine h b (List.mem_cons.2 (.inr hb)) ?_;rw[List.erase_cons_tail (by simpa using hab)];exact List.mem_cons.2 (.inr hb2)
theorem Opt.nodup(h:Opt N L T v H):H.Nodup:=yt λ_ ha=>h.once ha
theorem Opt.rch(h:Opt N L T v H){a:A}(ha:a∈H):Con N H v (N.src a):=by
 apply Classical.byContradiction;intro hn;refine h.need ha λt ht=>?_
 have:∀{x t:Int},Con N H x t→Con N H v x→Con N (H.erase a) x t:=λ{x t} hx=>by
  induction hx with
  |refl v=>intro _;exact .refl v
  |step b hb _ ih=>
   intro hv;have hba:b≠a:=λe=>by subst e;exact hn hv
   exact .step b ((List.mem_erase_of_ne hba).2 hb) (ih (hv.trans (.one hb)))
 exact this (h.cov t ht) (.refl v)
theorem Opt.ends(h:Opt N L T v H){a:A}(ha:a∈H):∃t,T t∧Con N H (N.dst a) t:=by
 apply Classical.byContradiction;intro hn;refine h.need ha λt ht=>?_
 have:∀{x t:Int},Con N H x t→¬Con N H (N.dst a) t→Con N (H.erase a) x t:=λ{x t} hx=>by
  induction hx with
  |refl v=>intro _;exact .refl v
  |step b hb hr ih=>
   intro hv;have hba:b≠a:=λe=>by subst e;exact hv hr
   exact .step b ((List.mem_erase_of_ne hba).2 hb) (ih hv)
 exact this (h.cov t ht) λhc=>hn ⟨t,ht,hc⟩
theorem zT{a:A}(hc:Con N (H.erase a) v (N.dst a)){t:Int}(h:Con N H v t):Con N (H.erase a) v t:=by
 have:∀{x t:Int},Con N H x t→Con N (H.erase a) x t∨Con N (H.erase a) (N.dst a) t:=λ{x t} hx=>by
  induction hx with
  |refl v=>exact .inl (.refl v)
  |step b hb _ ih=>
   rcases ih with ih|ih
   ·by_cases hba:b=a
    ·subst hba;exact .inr ih
    ·exact .inl (.step b ((List.mem_erase_of_ne hba).2 hb) ih)
   ·exact .inr ih
 rcases this h with h|h
 ·exact h
 ·exact hc.trans h
theorem acY{x y:Int}(h:Con N H x y):x=y∨∃e∈H,N.dst e=y∧Con N (H.filter λa=>!decide (N.dst a=y)) x (N.src e):=by
 induction h with
 |refl v=>exact .inl rfl
 |@step u a ha hr ih=>
  by_cases hy:N.dst a=u
  ·exact .inr ⟨a,ha,hy,.refl _⟩
  ·rcases ih with ih|⟨e,h1,h2,h3⟩
   ·exact absurd ih hy
   ·exact .inr ⟨e,h1,h2,.step a (List.mem_filter.2 ⟨ha,by simp[hy]⟩) h3⟩
theorem Opt.root(h:Opt N L T v H){a:A}(ha:a∈H):N.dst a≠v:=λe=>h.need ha λt ht=>zT (by rw[e];exact .refl v) (h.cov t ht)
theorem Opt.dst(h:Opt N L T v H){a b:A}(ha:a∈H)(hb:b∈H)(he:N.dst a=N.dst b):a=b:=by
 apply Classical.byContradiction;intro hab;have hy:Con N H v (N.dst a):=(h.rch ha).trans (.one ha);rcases acY hy with h1|⟨e,h1,h2,h3⟩
 ·exact h.root ha h1.symm
 ·have free:∀c,c∈H→N.dst c=N.dst a→e≠c→False:=λc hc hd hec=>by
   refine h.need hc λt ht=>zT ?_ (h.cov t ht);rw[hd]
   have hm:Con N (H.erase c) v (N.src e):=h3.mono λx hx=>by
    obtain⟨x1,x2⟩:=List.mem_filter.1 hx;refine(List.mem_erase_of_ne λhxc=>?_).2 x1;subst hxc;simp[hd]at x2
   have he2:e∈H.erase c:=(List.mem_erase_of_ne hec).2 h1;have:=hm.trans (.one he2);rw[h2]at this;exact this
  by_cases hea:e=a
  ·exact free b hb he.symm (λheb=>hab (hea.symm.trans heb))
  ·exact free a ha rfl hea
end net2
end Go.Proofs.YtmnbolcmepihlaaGreat
