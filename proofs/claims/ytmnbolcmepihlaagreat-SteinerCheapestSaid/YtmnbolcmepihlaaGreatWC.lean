/- Plain: what mQ answers bN least. No condition but bk aJ stand in each. -/
import Derived.Test.YtmnbolcmepihlaaGreatAV
namespace Go.Proofs.YtmnbolcmepihlaaGreat
set_option linter.all false
open Go
theorem qs{m:List (Int×Int)}{v:Int}(h:atM m v<2305843009213693951):aM m v=some (atM m v):=by
 unfold atM at h ⊢
 cases hg:aM m v with
 |none=>rw[hg]at h;simp at h
 |some c=>rfl
theorem afl{m:List (Int×Int)}{v c:Int}(h:aM m v=some c):atM m v=c:=by unfold atM;rw[h];rfl
theorem uH{α:Type}{l:List α}{S:Nat}(h:S<l.length):∃x,l[S]?=some x:=⟨l[S],List.getElem?_eq_getElem h⟩
theorem abo{rows:List (List (Int×Int))}{S:Nat}{m:List (Int×Int)}(h:rows[S]?=some m):cI rows S=m:=by
 unfold cI;rw[List.getD_eq_getElem?_getD,h];rfl
theorem adw{S P:Nat}(hS:S<2 ^ 60)(hP:P<S)(h:P &&& S=P):P &&& eV S P=0∧P ||| eV S P=S:=by
 have hb:=ta (a:=S) (b:=P) hS (by omega)
 have hp:∀i,(P.testBit i&&S.testBit i)=P.testBit i:=λi=>by rw[←Nat.testBit_and,h]
 constructor
 ·apply Nat.eq_of_testBit_eq
  intro i
  rw[Nat.testBit_and,hb,Nat.zero_testBit]
  cases P.testBit i<;>simp
 ·apply Nat.eq_of_testBit_eq
  intro i
  have:=hp i
  rw[Nat.testBit_or,hb]
  cases h1:P.testBit i<;>cases h2:S.testBit i<;>rw[h1,h2]at this<;>simp at this ⊢
theorem adx{S P R:Nat}(hS:S<2 ^ 60)(hP:P<2 ^ 60)(h0:P &&& R=0)(h:P ||| R=S):R=eV S P∧P &&& S=P:=by
 have hb:=ta (a:=S) (b:=P) hS hP
 have hz:∀i,(P.testBit i&&R.testBit i)=false:=λi=>by rw[←Nat.testBit_and,h0,Nat.zero_testBit]
 have ho:∀i,(P.testBit i||R.testBit i)=S.testBit i:=λi=>by rw[←Nat.testBit_or,h]
 constructor
 ·apply Nat.eq_of_testBit_eq
  intro i
  have h1:=hz i
  have h2:=ho i
  rw[hb,←h2]
  cases hp:P.testBit i<;>cases hr:R.testBit i<;>rw[hp,hr]at h1<;>simp at h1 ⊢
 ·apply Nat.eq_of_testBit_eq
  intro i
  have h2:=ho i
  rw[Nat.testBit_and,←h2]
  cases P.testBit i<;>simp
section
variable {ay:List aq}{ts:List Int}{rows:List (List (Int×Int))}{steps:List (List (Int×(Int×Int)))}
theorem aaz(h:pK ay ts rows steps)(hA:kU ay)(h64:rows.length≤64):∀(S:Nat),S<rows.length→∀(n:Nat) (v c:Int),c.toNat=n→aM (cI rows S) v=some c→∃Hs,Trk aX ay ts.length (λi=>ts.getD i 0) S v Hs∧cz aX Hs=c∧Col steps (S:Int) v (Hs.map (·.Hop)):=by
 intro S
 induction S using Nat.strongRecOn with
 |_ S ihS=>
  intro hS n
  induction n using Nat.strongRecOn with
  |_ n ihn=>
   intro v c hcn hv
   obtain⟨m1,hm1⟩:=uH hS
   obtain⟨m2,hm2⟩:=uH (l:=steps) (S:=S) (by rw[h.len];exact hS)
   have hF:=h.row S m1 m2 hm1 hm2
   rw[abo hm1]at hv ihn
   obtain⟨⟨hc0,hcf⟩,hst⟩:=hF.j.ok v c hv
   have hel:elO steps (S:Int)=some m2:=by unfold elO;rw[if_pos (by omega),Int.toNat_natCast];exact hm2
   rcases hst with⟨hx,a,ha,h1,h2,h3⟩|⟨hx,P,h1,h2,h3,h4,h5,h6,h7⟩|⟨hx,i,h1,h2,h3⟩
   ·have hc:=hA.cost a ha
    have hhop:=hF.hop a ha
    rw[h1,h2,afl hv]at hhop
    have heq:atM m1 ((aM m2 v).getD (0,0)).1=c-a.bO:=by omega
    have hk:aM m1 ((aM m2 v).getD (0,0)).1=some (c-a.bO):=by rw[←heq];exact qs (by omega)
    have h0:=(hF.j.bd ((aM m2 v).getD (0,0)).1).1
    obtain⟨Hs,g1,g2,g3⟩:=ihn (c-a.bO).toNat (by omega) _ (c-a.bO) rfl hk
    refine⟨a::Hs,?_,by rw[fR,g2];show a.bO+_=_;omega,?_⟩
    ·have:=Trk.hop (N:=aX) a ha (show Trk aX ay ts.length (λi=>ts.getD i 0) S (aX.dst a) Hs by show Trk _ _ _ _ S a.Hop.To Hs;rw[h2];exact g1)
     have e:aX.src a=v:=h1
     rw[e]at this
     exact this
    ·have e:(a::Hs).map (·.Hop)=aS.mk v ((aM m2 v).getD (0,0)).1::Hs.map (·.Hop):=by
      rw[List.map_cons,←h2,←h1]
     rw[e]
     exact Col.next hel rfl hx g3
   ·have hR:=yp (by omega) h2 h3 h4
    obtain⟨Hs,g1,g2,g3⟩:=ihS P h3 (by omega) _ v _ rfl (qs h6)
    obtain⟨Ks,k1,k2,k3⟩:=ihS (eV S P) hR (by omega) _ v _ rfl (qs h7)
    obtain⟨p1,p2⟩:=adw (S:=S) (P:=P) (by omega) h3 h4
    refine⟨Hs++Ks,?_,by rw[vJ,g2,k2,h5],?_⟩
    ·have:=Trk.part p1 g1 k1
     rw[p2]at this
     exact this
    ·rw[List.map_append]
     refine Col.part hel rfl hx (by rw[h1];omega) rfl (by rw[h1];exact g3) ?_
     rw[h1,uG (by omega)]
     exact k3
   ·refine⟨[],?_,by rw[h3];rfl,Col.leaf hel hx⟩
    have e:ts.getD i 0=v:=by rw[List.getD_eq_getElem?_getD,h1];rfl
    have:=Trk.one (N:=aX) (L:=ay) (k:=ts.length) (ts:=λi=>ts.getD i 0) i (List.getElem?_eq_some_iff.1 h1).1
    simp only[e]at this
    rw[h2];exact this
theorem afm(h:pK ay ts rows steps)(hA:kU ay)(hl:rows.length=2 ^ ts.length)(h64:rows.length≤64):Low aX ay ts.length (λi=>ts.getD i 0) (λS v=>atM (cI rows S) v):=by
 have F:∀S,S<rows.length→∃m2,yo ay ts rows S (cI rows S) m2:=λS hS=>by
  obtain⟨m1,hm1⟩:=uH hS
  obtain⟨m2,hm2⟩:=uH (l:=steps) (S:=S) (by rw[h.len];exact hS)
  exact⟨m2,by rw[abo hm1];exact h.row S m1 m2 hm1 hm2⟩
 refine⟨λa ha=>by have:=(hA.cost a ha).1;show 0≤a.bO;omega,λi hi=>?_,λS h0 hS a ha=>?_,λS P R hS hP hR h0 ho v=>?_⟩
 ·obtain⟨m2,hF⟩:=F (2 ^ i) (by rw[hl];exact Nat.pow_lt_pow_right (by omega) hi)
  refine hF.one i _ ?_ rfl
  rw[List.getD_eq_getElem?_getD,List.getElem?_eq_getElem hi];rfl
 ·obtain⟨m2,hF⟩:=F S (by rw[hl];exact hS)
  exact hF.hop a ha
 ·obtain⟨m2,hF⟩:=F S (by rw[hl];exact hS)
  have hlt:=ni h0 ho hR
  obtain⟨e1,e2⟩:=adx (S:=S) (P:=P) (by omega) (by omega) h0 ho
  have:=hF.j.part P v ⟨hP,hlt,e2⟩
  rw[←e1]at this
  exact this
theorem jo:∀{l:List aq},(∀a∈l,1≤a.bO∧a.bO≤1000)→(l.length:Int)≤cz aX l∧cz aX l≤1000*l.length
 |[],_=>by simp[cz]
 |a::l,h=>by
  have h1:=h a (by simp)
  have h2:=jo λb hb=>h b (List.mem_cons.2 (.inr hb))
  rw[fR,List.length_cons]
  have:aX.cost a=a.bO:=rfl
  omega
theorem aaA{k i:Nat}:(2 ^ k-1).testBit i=decide (i<k):=by rw[Nat.testBit_two_pow_sub_one]
theorem xC{v:Int}{K:List aq}:(∀i,(2 ^ ts.length-1).testBit i=true→Con aX K v (ts.getD i 0))↔∀t,t∈ts→Con aX K v t:=by
 constructor
 ·intro h t ht
  obtain⟨i,hi⟩:=List.getElem?_of_mem ht
  have:=h i (by rw[aaA];exact decide_eq_true (List.getElem?_eq_some_iff.1 hi).1)
  rwa [List.getD_eq_getElem?_getD,hi]at this
 ·intro h i hi
  rw[aaA]at hi
  have hi:=of_decide_eq_true hi
  refine h _ ?_
  rw[List.getD_eq_getElem?_getD,List.getElem?_eq_getElem hi]
  exact List.getElem_mem hi
theorem aaB(h:pK ay ts rows steps)(hA:kU ay)(hl:rows.length=2 ^ ts.length)(hk:ts.length≤6)(h1:1≤ts.length){root:Int}:
  (2305843009213693951≤atM (cI rows (2 ^ ts.length-1)) root→¬∀t,t∈ts→Con aX ay root t)∧
  (atM (cI rows (2 ^ ts.length-1)) root<2305843009213693951→∃Hs:List aq,Opt aX ay (λt=>t∈ts) root Hs∧cz aX Hs=atM (cI rows (2 ^ ts.length-1)) root∧Col steps ((2 ^ ts.length-1:Nat):Int) root (Hs.map (·.Hop))):=by
 have h64:rows.length≤64:=by rw[hl];exact Nat.le_trans (Nat.pow_le_pow_right (by omega) hk) (by decide)
 have afn:=afm h hA hl h64
 have hp1:2 ^ 1≤2 ^ ts.length:=Nat.pow_le_pow_right (by omega) h1
 have hle:∀K,(∀a∈K,a∈ay)→(∀t,t∈ts→Con aX K root t)→atM (cI rows (2 ^ ts.length-1)) root≤cz aX K:=λK hK hc=>
  afn.le K.length K (Nat.le_refl _) hK (2 ^ ts.length-1) (by omega) (by omega) root (xC.2 hc)
 constructor
 ·intro hf hc
  have h2:=hle ay (λa ha=>ha) hc
  have h3:=(jo hA.cost).2
  have h4:=hA.len
  omega
 ·intro hf
  obtain⟨Hs,g1,g2,g3⟩:=aaz h hA h64 (2 ^ ts.length-1) (by omega) _ root _ rfl (qs hf)
  refine⟨Hs,⟨g1.sub,λa ha=>by have:=(hA.cost a ha).1;show 0<a.bO;omega,xC.1 g1.cov,λK hK hc=>by rw[g2];exact hle K hK hc⟩,g2,g3⟩
end
end Go.Proofs.YtmnbolcmepihlaaGreat
