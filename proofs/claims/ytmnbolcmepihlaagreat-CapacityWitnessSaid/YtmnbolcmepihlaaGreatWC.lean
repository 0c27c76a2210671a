/- Plain: what pS answers oT least. No condition but aT aH stand in each. -/
import Derived.Test.YtmnbolcmepihlaaGreatAV
namespace Go.Proofs.YtmnbolcmepihlaaGreat
set_option linter.all false
open Go
theorem pT{m:List (Int×Int)}{v:Int}(h:atM m v<2305843009213693951):aO m v=some (atM m v):=by
 unfold atM at h ⊢
 cases hg:aO m v with
 |none=>rw[hg]at h;simp at h
 |some c=>rfl
theorem afe{m:List (Int×Int)}{v c:Int}(h:aO m v=some c):atM m v=c:=by unfold atM;rw[h];rfl
theorem ue{α:Type}{l:List α}{S:Nat}(h:S<l.length):∃x,l[S]?=some x:=⟨l[S],List.getElem?_eq_getElem h⟩
theorem aa3{rows:List (List (Int×Int))}{S:Nat}{m:List (Int×Int)}(h:rows[S]?=some m):cW rows S=m:=by
 unfold cW;rw[List.getD_eq_getElem?_getD,h];rfl
theorem adp{S P:Nat}(hS:S<2 ^ 60)(hP:P<S)(h:P &&& S=P):P &&& eX S P=0∧P ||| eX S P=S:=by
 have hb:=sN (a:=S) (b:=P) hS (by omega)
 have hp:∀i,(P.testBit i&&S.testBit i)=P.testBit i:=λi=>by rw[←Nat.testBit_and,h]
 constructor
 ·apply Nat.eq_of_testBit_eq
  intro i
  rw[Nat.testBit_and,hb,Nat.zero_testBit]
  cases P.testBit i<;>simp
 ·apply Nat.eq_of_testBit_eq
  intro i
  have:=hp i
  rw[Nat.testBit_or,hb]
  cases h1:P.testBit i<;>cases h2:S.testBit i<;>rw[h1,h2]at this<;>simp at this ⊢
theorem adq{S P R:Nat}(hS:S<2 ^ 60)(hP:P<2 ^ 60)(h0:P &&& R=0)(h:P ||| R=S):R=eX S P∧P &&& S=P:=by
 have hb:=sN (a:=S) (b:=P) hS hP
 have hz:∀i,(P.testBit i&&R.testBit i)=false:=λi=>by rw[←Nat.testBit_and,h0,Nat.zero_testBit]
 have ho:∀i,(P.testBit i||R.testBit i)=S.testBit i:=λi=>by rw[←Nat.testBit_or,h]
 constructor
 ·apply Nat.eq_of_testBit_eq
  intro i
  have h1:=hz i
  have h2:=ho i
  rw[hb,←h2]
  cases hp:P.testBit i<;>cases hr:R.testBit i<;>rw[hp,hr]at h1<;>simp at h1 ⊢
 ·apply Nat.eq_of_testBit_eq
  intro i
  have h2:=ho i
  rw[Nat.testBit_and,←h2]
  cases P.testBit i<;>simp
section
variable {ai:List af}{ts:List Int}{rows:List (List (Int×Int))}{steps:List (List (Int×(Int×Int)))}
theorem aae(h:oS ai ts rows steps)(hA:ig ai)(h64:rows.length≤64):∀(S:Nat),S<rows.length→∀(n:Nat) (v c:Int),c.toNat=n→aO (cW rows S) v=some c→∃Hs,Trk bI ai ts.length (λi=>ts.getD i 0) S v Hs∧dI bI Hs=c∧Col steps (S:Int) v (Hs.map (·.Hop)):=by
 intro S
 induction S using Nat.strongRecOn with
 |_ S ihS=>
  intro hS n
  induction n using Nat.strongRecOn with
  |_ n ihn=>
   intro v c hcn hv
   obtain⟨m1,hm1⟩:=ue hS
   obtain⟨m2,hm2⟩:=ue (l:=steps) (S:=S) (by rw[h.len];exact hS)
   have hF:=h.row S m1 m2 hm1 hm2
   rw[aa3 hm1]at hv ihn
   obtain⟨⟨hc0,hcf⟩,hst⟩:=hF.j.ok v c hv
   have hel:elO steps (S:Int)=some m2:=by unfold elO;rw[if_pos (by omega),Int.toNat_natCast];exact hm2
   rcases hst with⟨hx,a,ha,h1,h2,h3⟩|⟨hx,P,h1,h2,h3,h4,h5,h6,h7⟩|⟨hx,i,h1,h2,h3⟩
   ·have hc:=hA.cost a ha
    have hhop:=hF.hop a ha
    rw[h1,h2,afe hv]at hhop
    have heq:atM m1 ((aO m2 v).getD (0,0)).1=c-a.cV:=by omega
    have hk:aO m1 ((aO m2 v).getD (0,0)).1=some (c-a.cV):=by rw[←heq];exact pT (by omega)
    have h0:=(hF.j.bd ((aO m2 v).getD (0,0)).1).1
    obtain⟨Hs,g1,g2,g3⟩:=ihn (c-a.cV).toNat (by omega) _ (c-a.cV) rfl hk
    refine⟨a::Hs,?_,by rw[fD,g2];show a.cV+_=_;omega,?_⟩
    ·have:=Trk.hop (N:=bI) a ha (show Trk bI ai ts.length (λi=>ts.getD i 0) S (bI.dst a) Hs by show Trk _ _ _ _ S a.Hop.To Hs;rw[h2];exact g1)
     have e:bI.src a=v:=h1
     rw[e]at this
     exact this
    ·have e:(a::Hs).map (·.Hop)=aF.mk v ((aO m2 v).getD (0,0)).1::Hs.map (·.Hop):=by
      rw[List.map_cons,←h2,←h1]
     rw[e]
     exact Col.next hel rfl hx g3
   ·have hR:=xS (by omega) h2 h3 h4
    obtain⟨Hs,g1,g2,g3⟩:=ihS P h3 (by omega) _ v _ rfl (pT h6)
    obtain⟨Ks,k1,k2,k3⟩:=ihS (eX S P) hR (by omega) _ v _ rfl (pT h7)
    obtain⟨p1,p2⟩:=adp (S:=S) (P:=P) (by omega) h3 h4
    refine⟨Hs++Ks,?_,by rw[aaJ,g2,k2,h5],?_⟩
    ·have:=Trk.part p1 g1 k1
     rw[p2]at this
     exact this
    ·rw[List.map_append]
     refine Col.part hel rfl hx (by rw[h1];omega) rfl (by rw[h1];exact g3) ?_
     rw[h1,ud (by omega)]
     exact k3
   ·refine⟨[],?_,by rw[h3];rfl,Col.leaf hel hx⟩
    have e:ts.getD i 0=v:=by rw[List.getD_eq_getElem?_getD,h1];rfl
    have:=Trk.one (N:=bI) (L:=ai) (k:=ts.length) (ts:=λi=>ts.getD i 0) i (List.getElem?_eq_some_iff.1 h1).1
    simp only[e]at this
    rw[h2];exact this
theorem aff(h:oS ai ts rows steps)(hA:ig ai)(hl:rows.length=2 ^ ts.length)(h64:rows.length≤64):Low bI ai ts.length (λi=>ts.getD i 0) (λS v=>atM (cW rows S) v):=by
 have F:∀S,S<rows.length→∃m2,xR ai ts rows S (cW rows S) m2:=λS hS=>by
  obtain⟨m1,hm1⟩:=ue hS
  obtain⟨m2,hm2⟩:=ue (l:=steps) (S:=S) (by rw[h.len];exact hS)
  exact⟨m2,by rw[aa3 hm1];exact h.row S m1 m2 hm1 hm2⟩
 refine⟨λa ha=>by have:=(hA.cost a ha).1;show 0≤a.cV;omega,λi hi=>?_,λS h0 hS a ha=>?_,λS P R hS hP hR h0 ho v=>?_⟩
 ·obtain⟨m2,hF⟩:=F (2 ^ i) (by rw[hl];exact Nat.pow_lt_pow_right (by omega) hi)
  refine hF.one i _ ?_ rfl
  rw[List.getD_eq_getElem?_getD,List.getElem?_eq_getElem hi];rfl
 ·obtain⟨m2,hF⟩:=F S (by rw[hl];exact hS)
  exact hF.hop a ha
 ·obtain⟨m2,hF⟩:=F S (by rw[hl];exact hS)
  have hlt:=nL h0 ho hR
  obtain⟨e1,e2⟩:=adq (S:=S) (P:=P) (by omega) (by omega) h0 ho
  have:=hF.j.part P v ⟨hP,hlt,e2⟩
  rw[←e1]at this
  exact this
theorem jZ:∀{l:List af},(∀a∈l,1≤a.cV∧a.cV≤1000)→(l.length:Int)≤dI bI l∧dI bI l≤1000*l.length
 |[],_=>by simp[dI]
 |a::l,h=>by
  have h1:=h a (by simp)
  have h2:=jZ λb hb=>h b (List.mem_cons.2 (.inr hb))
  rw[fD,List.length_cons]
  have:bI.cost a=a.cV:=rfl
  omega
theorem aaf{k i:Nat}:(2 ^ k-1).testBit i=decide (i<k):=by rw[Nat.testBit_two_pow_sub_one]
theorem adr{v:Int}{K:List af}:(∀i,(2 ^ ts.length-1).testBit i=true→Con bI K v (ts.getD i 0))↔∀t,t∈ts→Con bI K v t:=by
 constructor
 ·intro h t ht
  obtain⟨i,hi⟩:=List.getElem?_of_mem ht
  have:=h i (by rw[aaf];exact decide_eq_true (List.getElem?_eq_some_iff.1 hi).1)
  rwa [List.getD_eq_getElem?_getD,hi]at this
 ·intro h i hi
  rw[aaf]at hi
  have hi:=of_decide_eq_true hi
  refine h _ ?_
  rw[List.getD_eq_getElem?_getD,List.getElem?_eq_getElem hi]
  exact List.getElem_mem hi
theorem aag(h:oS ai ts rows steps)(hA:ig ai)(hl:rows.length=2 ^ ts.length)(hk:ts.length≤6)(h1:1≤ts.length){root:Int}:
  (2305843009213693951≤atM (cW rows (2 ^ ts.length-1)) root→¬∀t,t∈ts→Con bI ai root t)∧
  (atM (cW rows (2 ^ ts.length-1)) root<2305843009213693951→∃Hs:List af,Opt bI ai (λt=>t∈ts) root Hs∧dI bI Hs=atM (cW rows (2 ^ ts.length-1)) root∧Col steps ((2 ^ ts.length-1:Nat):Int) root (Hs.map (·.Hop))):=by
 have h64:rows.length≤64:=by rw[hl];exact Nat.le_trans (Nat.pow_le_pow_right (by omega) hk) (by decide)
 have hlow:=aff h hA hl h64
 have hp1:2 ^ 1≤2 ^ ts.length:=Nat.pow_le_pow_right (by omega) h1
 have hle:∀K,(∀a∈K,a∈ai)→(∀t,t∈ts→Con bI K root t)→atM (cW rows (2 ^ ts.length-1)) root≤dI bI K:=λK hK hc=>
  hlow.le K.length K (Nat.le_refl _) hK (2 ^ ts.length-1) (by omega) (by omega) root (adr.2 hc)
 constructor
 ·intro hf hc
  have h2:=hle ai (λa ha=>ha) hc
  have h3:=(jZ hA.cost).2
  have h4:=hA.len
  omega
 ·intro hf
  obtain⟨Hs,g1,g2,g3⟩:=aae h hA h64 (2 ^ ts.length-1) (by omega) _ root _ rfl (pT hf)
  refine⟨Hs,⟨g1.sub,λa ha=>by have:=(hA.cost a ha).1;show 0<a.cV;omega,adr.1 g1.cov,λK hK hc=>by rw[g2];exact hle K hK hc⟩,g2,g3⟩
end
end Go.Proofs.YtmnbolcmepihlaaGreat
