/- Plain: what qk answers ck least. No condition but aX aL stand in each. -/
import Derived.Test.YtmnbolcmepihlaaGreatAV
namespace Go.Proofs.YtmnbolcmepihlaaGreat
set_option linter.all false
open Go
theorem sJ{m:List (Int×Int)}{v:Int}(h:atM m v<2305843009213693951):aT m v=some (atM m v):=by
 unfold atM at h ⊢;cases hg:aT m v with
 |none=>rw[hg]at h;simp at h
 |some c=>rfl
theorem ain{m:List (Int×Int)}{v c:Int}(h:aT m v=some c):atM m v=c:=by unfold atM;rw[h];rfl
theorem w6{α:Type}{l:List α}{S:Nat}(h:S<l.length):∃x,l[S]?=some x:=⟨l[S],List.getElem?_eq_getElem h⟩
theorem adX{rows:List (List (Int×Int))}{S:Nat}{m:List (Int×Int)}(h:rows[S]?=some m):dD rows S=m:=by
 unfold dD;rw[List.getD_eq_getElem?_getD,h];rfl
theorem age{S P:Nat}(hS:S<2 ^ 60)(hP:P<S)(h:P &&& S=P):P &&& fH S P=0∧P ||| fH S P=S:=by
 have hb:=vq (a:=S) (b:=P) hS (by omega);have hp:∀i,(P.testBit i&&S.testBit i)=P.testBit i:=λi=>by rw[←Nat.testBit_and,h]
 constructor
 ·apply Nat.eq_of_testBit_eq;intro i;rw[Nat.testBit_and,hb,Nat.zero_testBit];cases P.testBit i<;>simp
 ·apply Nat.eq_of_testBit_eq;intro i;have:=hp i;rw[Nat.testBit_or,hb];cases h1:P.testBit i<;>cases h2:S.testBit i<;>rw[h1,h2]at this<;>simp at this ⊢
theorem agf{S P R:Nat}(hS:S<2 ^ 60)(hP:P<2 ^ 60)(h0:P &&& R=0)(h:P ||| R=S):R=fH S P∧P &&& S=P:=by
 have hb:=vq (a:=S) (b:=P) hS hP;have hz:∀i,(P.testBit i&&R.testBit i)=false:=λi=>by rw[←Nat.testBit_and,h0,Nat.zero_testBit]
 have ho:∀i,(P.testBit i||R.testBit i)=S.testBit i:=λi=>by rw[←Nat.testBit_or,h]
 constructor
 ·apply Nat.eq_of_testBit_eq;intro i;have h1:=hz i;have h2:=ho i;rw[hb,←h2];cases hp:P.testBit i<;>cases hr:R.testBit i<;>rw[hp,hr]at h1<;>simp at h1 ⊢
 ·apply Nat.eq_of_testBit_eq;intro i;have h2:=ho i;rw[Nat.testBit_and,←h2];cases P.testBit i<;>simp
section
variable {aq:List ai}{ts:List Int}{rows:List (List (Int×Int))}{steps:List (List (Int×(Int×Int)))}
theorem ac1(h:rJ aq ts rows steps)(hA:iZ aq)(h64:rows.length≤64):∀(S:Nat),S<rows.length→∀(n:Nat) (v c:Int),c.toNat=n→aT (dD rows S) v=some c→∃Hs,Trk bk aq ts.length (λi=>ts.getD i 0) S v Hs∧dw bk Hs=c∧Col steps (S:Int) v (Hs.map (·.Hop)):=by
 intro S;induction S using Nat.strongRecOn with
 |_ S ihS=>
  intro hS n;induction n using Nat.strongRecOn with
  |_ n ihn=>
   intro v c hcn hv;obtain⟨m1,hm1⟩:=w6 hS;obtain⟨m2,hm2⟩:=w6 (l:=steps) (S:=S) (by rw[h.len];exact hS);have hF:=h.row S m1 m2 hm1 hm2;rw[adX hm1]at hv ihn;obtain⟨⟨hc0,hcf⟩,hst⟩:=hF.j.ok v c hv;have hel:elO steps (S:Int)=some m2:=by unfold elO;rw[if_pos (by omega),Int.toNat_natCast];exact hm2
   rcases hst with⟨hx,a,ha,h1,h2,h3⟩|⟨hx,P,h1,h2,h3,h4,h5,h6,h7⟩|⟨hx,i,h1,h2,h3⟩
   ·have hc:=hA.cost a ha;have hhop:=hF.hop a ha;rw[h1,h2,ain hv]at hhop;have heq:atM m1 ((aT m2 v).getD (0,0)).1=c-a.cU:=by omega
    have hk:aT m1 ((aT m2 v).getD (0,0)).1=some (c-a.cU):=by rw[←heq];exact sJ (by omega)
    have h0:=(hF.j.bd ((aT m2 v).getD (0,0)).1).1;obtain⟨Hs,g1,g2,g3⟩:=ihn (c-a.cU).toNat (by omega) _ (c-a.cU) rfl hk;refine⟨a::Hs,?_,by rw[gl,g2];show a.cU+_=_;omega,?_⟩
    ·have:=Trk.hop (N:=bk) a ha (show Trk bk aq ts.length (λi=>ts.getD i 0) S (bk.dst a) Hs by show Trk _ _ _ _ S a.Hop.To Hs;rw[h2];exact g1);have e:bk.src a=v:=h1;rw[e]at this;exact this
    ·have e:(a::Hs).map (·.Hop)=aC.mk v ((aT m2 v).getD (0,0)).1::Hs.map (·.Hop):=by
      rw[List.map_cons,←h2,←h1]
     rw[e];exact Col.next hel rfl hx g3
   ·have hR:=aaJ (by omega) h2 h3 h4;obtain⟨Hs,g1,g2,g3⟩:=ihS P h3 (by omega) _ v _ rfl (sJ h6);obtain⟨Ks,k1,k2,k3⟩:=ihS (fH S P) hR (by omega) _ v _ rfl (sJ h7);obtain⟨p1,p2⟩:=age (S:=S) (P:=P) (by omega) h3 h4;refine⟨Hs++Ks,?_,by rw[yq,g2,k2,h5],?_⟩
    ·have:=Trk.part p1 g1 k1;rw[p2]at this;exact this
    ·rw[List.map_append];refine Col.part hel rfl hx (by rw[h1];omega) rfl (by rw[h1];exact g3) ?_;rw[h1,wZ (by omega)];exact k3
   ·refine⟨[],?_,by rw[h3];rfl,Col.leaf hel hx⟩;have e:ts.getD i 0=v:=by rw[List.getD_eq_getElem?_getD,h1];rfl
    have:=Trk.one (N:=bk) (L:=aq) (k:=ts.length) (ts:=λi=>ts.getD i 0) i (List.getElem?_eq_some_iff.1 h1).1;simp only[e]at this;rw[h2];exact this
theorem aio(h:rJ aq ts rows steps)(hA:iZ aq)(hl:rows.length=2 ^ ts.length)(h64:rows.length≤64):Low bk aq ts.length (λi=>ts.getD i 0) (λS v=>atM (dD rows S) v):=by
 have F:∀S,S<rows.length→∃m2,aaI aq ts rows S (dD rows S) m2:=λS hS=>by
  obtain⟨m1,hm1⟩:=w6 hS;obtain⟨m2,hm2⟩:=w6 (l:=steps) (S:=S) (by rw[h.len];exact hS);exact⟨m2,by rw[adX hm1];exact h.row S m1 m2 hm1 hm2⟩
 refine⟨λa ha=>by have:=(hA.cost a ha).1;show 0≤a.cU;omega,λi hi=>?_,λS h0 hS a ha=>?_,λS P R hS hP hR h0 ho v=>?_⟩
 ·obtain⟨m2,hF⟩:=F (2 ^ i) (by rw[hl];exact Nat.pow_lt_pow_right (by omega) hi);refine hF.one i _ ?_ rfl;rw[List.getD_eq_getElem?_getD,List.getElem?_eq_getElem hi];rfl
 ·obtain⟨m2,hF⟩:=F S (by rw[hl];exact hS);exact hF.hop a ha
 ·obtain⟨m2,hF⟩:=F S (by rw[hl];exact hS);have hlt:=oN h0 ho hR;obtain⟨e1,e2⟩:=agf (S:=S) (P:=P) (by omega) (by omega) h0 ho;have:=hF.j.part P v ⟨hP,hlt,e2⟩;rw[←e1]at this;exact this
theorem kP:∀{l:List ai},(∀a∈l,1≤a.cU∧a.cU≤1000)→(l.length:Int)≤dw bk l∧dw bk l≤1000*l.length
 |[],_=>by simp[dw]
 |a::l,h=>by
  have h1:=h a (by simp);have h2:=kP λb hb=>h b (List.mem_cons.2 (.inr hb));rw[gl,List.length_cons];have:bk.cost a=a.cU:=rfl;omega
theorem ac2{k i:Nat}:(2 ^ k-1).testBit i=decide (i<k):=by rw[Nat.testBit_two_pow_sub_one]
theorem zV{v:Int}{K:List ai}:(∀i,(2 ^ ts.length-1).testBit i=true→Con bk K v (ts.getD i 0))↔∀t,t∈ts→Con bk K v t:=by
 constructor
 ·intro h t ht;obtain⟨i,hi⟩:=List.getElem?_of_mem ht;have:=h i (by rw[ac2];exact decide_eq_true (List.getElem?_eq_some_iff.1 hi).1)
  rwa [List.getD_eq_getElem?_getD,hi]at this
 ·intro h i hi;rw[ac2]at hi;have hi:=of_decide_eq_true hi;refine h _ ?_;rw[List.getD_eq_getElem?_getD,List.getElem?_eq_getElem hi];exact List.getElem_mem hi
theorem ac3(h:rJ aq ts rows steps)(hA:iZ aq)(hl:rows.length=2 ^ ts.length)(hk:ts.length≤6)(h1:1≤ts.length){root:Int}:
  (2305843009213693951≤atM (dD rows (2 ^ ts.length-1)) root→¬∀t,t∈ts→Con bk aq root t)∧
  (atM (dD rows (2 ^ ts.length-1)) root<2305843009213693951→∃Hs:List ai,Opt bk aq (λt=>t∈ts) root Hs∧dw bk Hs=atM (dD rows (2 ^ ts.length-1)) root∧Col steps ((2 ^ ts.length-1:Nat):Int) root (Hs.map (·.Hop))):=by
 have h64:rows.length≤64:=by rw[hl];exact Nat.le_trans (Nat.pow_le_pow_right (by omega) hk) (by decide)
 have aip:=aio h hA hl h64;have hp1:2 ^ 1≤2 ^ ts.length:=Nat.pow_le_pow_right (by omega) h1
 have hle:∀K,(∀a∈K,a∈aq)→(∀t,t∈ts→Con bk K root t)→atM (dD rows (2 ^ ts.length-1)) root≤dw bk K:=λK hK hc=>
  aip.le K.length K (Nat.le_refl _) hK (2 ^ ts.length-1) (by omega) (by omega) root (zV.2 hc)
 constructor
 ·intro hf hc;have h2:=hle aq (λa ha=>ha) hc;have h3:=(kP hA.cost).2;have h4:=hA.len;omega
 ·intro hf;obtain⟨Hs,g1,g2,g3⟩:=ac1 h hA h64 (2 ^ ts.length-1) (by omega) _ root _ rfl (sJ hf);refine⟨Hs,⟨g1.sub,λa ha=>by have:=(hA.cost a ha).1;show 0<a.cU;omega,zV.1 g1.cov,λK hK hc=>by rw[g2];exact hle K hK hc⟩,g2,g3⟩
end
end Go.Proofs.YtmnbolcmepihlaaGreat
