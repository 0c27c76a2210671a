/- Plain: the ae2 Forward and Run yl to what the yH do. No condition but bU bx stand in each. -/
import Derived.Test.YtdjeacigeegklaaGreatPYO
import Derived.Test.YtdjeacigeegklaaGreatPYJ
namespace Go.Proofs.YtdjeacigeegklaaGreat
set_option linter.all false
open Go
noncomputable def acO(e:aG)(r:Int)(p:aD):dz×Int:=if jY e=0 then bif ng p then(if nk e p=0 then(oK e r p,0)else(dz.mk 0 0 [],nk e p))else(dz.mk 0 0 [],1)else(dz.mk 0 0 [],1)
theorem ab5(e:aG)(r:Int)(p:aD)(hl:e.List.length≤1000):jm e r p=some (acO e r p):=by
 unfold jm acO
 simp only[jn,lY e (by omega),aV,lZ,zn]
 by_cases hv:jY e=0
 ·simp only[hv,decide_true,Bool.not_true,cond_false,if_true]
  cases hp:ng p
  ·rfl
  ·by_cases hs:nk e p=0
   ·simp only[hs,decide_true,Bool.not_true,cond_false,if_true,ab4 (mK.1 hv),aV,cond_true]
   ·simp[hs]
 ·simp[hv]
theorem tW(e:aG)(r:Int)(p:aD)(hl:e.List.length≤1000):kR e r p=some (acO e r p):=by
 unfold kR acO
 simp only[iY e (show e.List.length≤1000000 by omega),aV,oE,wC,ahX e r (show e.List.length≤1000000 by omega)]
 by_cases hve:jY e=0
 rotate_left
 ·simp only[jn];simp[hve]
 have hv:=mK.1 hve
 cases hp:ng p
 ·simp only[jn];simp[hve]
 by_cases hs:nk e p=0
 rotate_left
 ·simp only[jn];simp[hve,hs]
 unfold jn
 simp only[hve,hs,decide_true,Bool.not_true,cond_false,if_true,cond_true]
 unfold oK cV
 refine jX (L:=e.List) (λq (sg:Int×Int×List eP)=>sg=((q.filter (eN r p)).foldl orA 0,(q.filter (iR r p)).foldl orA 0,(q.filter (eT e r p)).map (eS e r p))) (λq l=>some (dz.mk ((e.List.filter (eN r p)).foldl orA 0) ((e.List.filter (iR r p)).foldl orA 0) ((e.List.filter (eT e r p)).map (eS e r p)),(0:Int))) (λs hs=>by rw[hs]) (λq x rest s Z h hi hZ=>?_) e.List [] _ rfl rfl
 subst hi
 have hx:x∈e.List:=by rw[←h];simp
 obtain⟨b0,b1⟩:=hv.bit hx
 have hel:=hv.small
 have hql:q.length≤64:=by
  have:e.List.length=q.length+(rest.length+1):=by rw[←h];simp
  omega
 have hfl:∀f:ak→Bool,(q.filter f).length≤64:=λf=>Nat.le_trans (List.length_filter_le _ _) hql
 have pass:(∀f,f=eT e r p∨f=eN r p∨f=iR r p→f x=false)→Z ((q.filter (eN r p)).foldl orA 0,(q.filter (iR r p)).foldl orA 0,(q.filter (eT e r p)).map (eS e r p))=some (dz.mk ((e.List.filter (eN r p)).foldl orA 0) ((e.List.filter (iR r p)).foldl orA 0) ((e.List.filter (eT e r p)).map (eS e r p)),(0:Int)):=λhf=>hZ _ (by
  simp only[List.filter_append,List.filter_cons,List.filter_nil,hf _ (.inl rfl),hf _ (.inr (.inl rfl)),hf _ (.inr (.inr rfl)),Bool.false_eq_true,if_false,List.append_nil])
 have ew:IntKind.wrap .u64 x.Bit=x.Bit:=wrap_u64 b0 (by omega)
 simp only[ew]
 rw[decide_eq_true b0,tQ b0 b1,afy b0 b1]
 simp only[chk,cond_true]
 have eh:(!decide (x.aN=r)||!tbi p.Bits x.Bit.toNat)=!vp r p x:=by unfold vp;cases decide (x.aN=r)<;>rfl
 rw[eh]
 cases hh:vp r p x
 ·exact pass λf hf=>by rcases hf with rfl|rfl|rfl<;>simp[eT,eN,iR,hh]
 simp only[Bool.not_true,cond_false]
 by_cases h3:x.Kind=3
 ·rw[decide_eq_true h3,cond_true]
  refine hZ _ ?_
  have e1:eT e r p x=false:=by simp[eT,h3]
  have e2:eN r p x=true:=by simp[eN,hh,h3]
  have e3:iR r p x=false:=by simp[iR,h3]
  simp only[List.filter_append,List.filter_cons,List.filter_nil,e1,e2,e3,Bool.false_eq_true,if_false,if_true,List.append_nil,List.foldl_append,List.foldl_cons,List.foldl_nil]
  rfl
 rw[decide_eq_false h3,cond_false]
 by_cases h4:p.TTL=0
 ·rw[decide_eq_true h4,cond_true]
  refine hZ _ ?_
  have e1:eT e r p x=false:=by simp[eT,h4]
  have e2:eN r p x=false:=by simp[eN,h3]
  have e3:iR r p x=true:=by simp[iR,hh,h3,h4]
  simp only[List.filter_append,List.filter_cons,List.filter_nil,e1,e2,e3,Bool.false_eq_true,if_false,if_true,List.append_nil,List.foldl_append,List.foldl_cons,List.foldl_nil]
  rfl
 rw[decide_eq_false h4,cond_false]
 by_cases h5:eR e r p=0
 ·have h5':bB .andNot .u64 p.Bits (tT e r)=0:=h5
  rw[decide_eq_true h5']
  exact pass λf hf=>by rcases hf with rfl|rfl|rfl<;>simp[eT,eN,iR,h3,h4,h5]
 ·have h5':¬bB .andNot .u64 p.Bits (tT e r)=0:=h5
  rw[decide_eq_false h5']
  simp only[Bool.not_false,cond_true]
  have e1:eT e r p x=true:=by simp[eT,hh,h3,h4,h5]
  have e2:eN r p x=false:=by simp[eN,h3]
  have e3:iR r p x=false:=by simp[iR,h4]
  have:=hfl (eT e r p)
  have fin:∀rt:List Int,rt=(if x.Kind=2 then[x.To]else[])→(bnd (dK ((q.filter (eT e r p)).map (eS e r p)) ([(eP.mk x.To (kZ.mk rt (aD.mk p.Mode p.bL p.Set p.Length (w64 (p.TTL-(1:Int))) p.cn p.cq p.dg (bB .andNot .u64 p.Bits (tT e r)) p.cm)))]:List eP)) λ(l_1:List eP)=>Z ((q.filter (eN r p)).foldl orA 0,(q.filter (iR r p)).foldl orA 0,l_1))=some (dz.mk ((e.List.filter (eN r p)).foldl orA 0) ((e.List.filter (iR r p)).foldl orA 0) ((e.List.filter (eT e r p)).map (eS e r p)),(0:Int)):=λrt hrt=>by
   rw[mY (by simp;omega),aV]
   refine hZ _ ?_
   simp only[List.filter_append,List.filter_cons,List.filter_nil,e1,e2,e3,Bool.false_eq_true,if_false,if_true,List.append_nil,List.map_append,List.map_cons,List.map_nil,hrt]
   rfl
  by_cases h2:x.Kind=2
  ·rw[decide_eq_true h2,cond_true];exact fin _ (by rw[if_pos h2])
  ·rw[decide_eq_false h2,cond_false];exact fin _ (by rw[if_neg h2])
theorem wE:∀{l:List ak} (k:Int),(l.Pairwise λa b=>a.Bit<b.Bit)→l.filter (λa=>decide (a.Bit<k+1))=l.filter (λa=>decide (a.Bit<k))++l.filter (λa=>decide (a.Bit=k))
 |[],_,_=>rfl
 |a::r,k,h=>by
  rw[List.pairwise_cons]at h
  have ih:=wE k h.2
  simp only[List.filter_cons]
  by_cases h1:a.Bit<k
  ·have h2:a.Bit<k+1:=by omega
   have h3:¬a.Bit=k:=by omega
   simp[h1,h2,h3,ih]
  ·have hr:r.filter (λa=>decide (a.Bit<k))=[]:=List.filter_eq_nil_iff.2 λb hb=>by have:=h.1 b hb;simp;omega
   by_cases h2:a.Bit=k
   ·have h3:a.Bit<k+1:=by omega
    have hr2:r.filter (λa=>decide (a.Bit=k))=[]:=List.filter_eq_nil_iff.2 λb hb=>by have:=h.1 b hb;simp;omega
    rw[hr,hr2]at ih
    simp[h1,h2,ih,hr,hr2];omega
   ·have h3:¬a.Bit<k+1:=by omega
    have hr2:r.filter (λa=>decide (a.Bit=k))=[]:=List.filter_eq_nil_iff.2 λb hb=>by have:=h.1 b hb;simp;omega
    rw[hr,hr2]at ih
    simp[h1,h2,h3,ih,hr,hr2]
theorem abk{e:aG}(hE:Ve e)(r:Int)(p:aD):kN r (oK e r p).Local p=some (qU e r p):=by
 unfold kN qU
 have hl:=hE.small
 have amk:(e.List.filter (eN r p)).Pairwise λa b=>a.Bit<b.Bit:=hE.asc.sublist List.filter_sublist
 have hfl:∀f:ak→Bool,((e.List.filter (eN r p)).filter f).length≤64:=λf=>Nat.le_trans (List.length_filter_le _ _) (Nat.le_trans (List.length_filter_le _ _) hl)
 refine Ok.eq (Ok.mb (λj (out:List cw)=>out=((e.List.filter (eN r p)).filter λa=>decide (a.Bit<j)).map (aeH r p)) 0 64 ?_ ?_ _ _ _ rfl (by omega) (by omega) ?_)
 ·rintro j out Z h1 h2 hi hZ
  subst hi
  have ew:IntKind.wrap .u64 j=j:=wrap_u64 h1 (by omega)
  simp only[jn,ew]
  refine Ok.chk (by simp;omega) ?_
  rw[agI _ h1 h2]
  cases hb:tbi (oK e r p).Local j.toNat
  ·simp only[Bool.false_eq_true,if_false]
   refine hZ _ ?_
   rw[wE j amk]
   rw[show(e.List.filter (eN r p)).filter (λa=>decide (a.Bit=j))=[]from List.filter_eq_nil_iff.2 λa ha hd=>by
    obtain⟨a1,a2⟩:=List.mem_filter.1 ha
    have ha2:=aia hE (r:=r) (p:=p) a1
    simp only[decide_eq_true_eq]at hd
    rw[hd,hb,a2]at ha2;cases ha2]
   simp
  ·simp only[if_true,decide_true,cond_true]
   refine Ok.chk (by simp;omega) ?_
   rw[tQ h1 h2]
   have:=hfl λa=>decide (a.Bit<j)
   refine Ok.bnd (mJ (by rw[List.length_map,List.length_singleton];omega)) λm hm=>hZ _ ?_
   rw[hm.1,wE j amk,List.map_append]
   congr 1
   obtain⟨a,ha,h3,h4⟩:=(ah9 hE j.toNat).1 hb
   have hone:(e.List.filter (eN r p)).filter (λa=>decide (a.Bit=j))=[a]:=by
    have hm1:a∈(e.List.filter (eN r p)).filter (λa=>decide (a.Bit=j)):=List.mem_filter.2 ⟨List.mem_filter.2 ⟨ha,h3⟩,by simp;omega⟩
    have hall:∀b∈(e.List.filter (eN r p)).filter (λa=>decide (a.Bit=j)),b=a:=λb hb=>by
     obtain⟨b1,b2⟩:=List.mem_filter.1 hb
     simp only[decide_eq_true_eq]at b2
     exact hE.afw (List.mem_filter.1 b1).1 ha (by omega)
    have hp:((e.List.filter (eN r p)).filter (λa=>decide (a.Bit=j))).Pairwise λa b=>a.Bit<b.Bit:=amk.sublist List.filter_sublist
    generalize (e.List.filter (eN r p)).filter (λa=>decide (a.Bit=j))=l at hm1 hall hp
    cases l with
    |nil=>cases hm1
    |cons b l=>
     cases l with
     |nil=>rw[hall b (by simp)]
     |cons c l=>
      rw[List.pairwise_cons]at hp
      have:=hp.1 c (by simp)
      rw[hall b (by simp),hall c (by simp)]at this;omega
   rw[hone]
   have:a.Bit.toNat=j.toNat:=by omega
   simp[aeH,zm,this]
 ·rintro j out h1 h2 hi
  have hj:j=64:=h2 (by omega)
  subst hj
  rw[hi]
  refine⟨_,rfl,?_⟩
  rw[show(e.List.filter (eN r p)).filter (λa=>decide (a.Bit<64))=e.List.filter (eN r p)from List.filter_eq_self.2 λa ha=>by
   have:=hE.bit (List.mem_filter.1 ha).1;simpa using this.2]
 ·rw[show(e.List.filter (eN r p)).filter (λa=>decide (a.Bit<0))=[]from List.filter_eq_nil_iff.2 λa ha=>by
   have:=hE.bit (List.mem_filter.1 ha).1;simp;omega]
  rfl
theorem zo:∀(l:List Int) (x:Int),(x::l).getLast?=some (abg x l)
 |[],x=>rfl
 |y::l,x=>by rw[List.getLast?_cons_cons];exact zo l y
variable {a:ak}{r:Int}{t:af}
theorem ar3(hne:a.Kind=2→r≠a.To)(h:okA t r a=true):abg r (oo t r a).1=a.To:=by
 unfold okA at h
 unfold oo at *
 by_cases h2:a.Kind=2
 ·rw[if_pos h2]at *
  simp only[decide_eq_true_eq]at h
  by_cases hs:(dT t r a.To).isSome=true
  ·have:=ahU hs
   rw[zo]at this
   exact Option.some.inj this
  ·exfalso
   have:gZ t r a.To=[]:=by
    by_cases hin:gJ t=0∧r∈ids t∧a.To∈ids t
    ·exact zZ a.To (uh (by simpa using hs)) (hne h2) []
    ·exact vM hin
   rw[this]at h;simp at h
 ·rw[if_neg h2];rfl
variable {p:aD}
theorem zp{e:aG}(h:a∈cV e r p):a∈e.List∧a.aN=r∧tbi p.Bits a.Bit.toNat=true∧a.Kind≠3∧p.TTL≠0∧eR e r p≠0:=by
 obtain⟨h1,h2⟩:=List.mem_filter.1 h
 simp only[eT,vp,Bool.and_eq_true,Bool.not_eq_true',decide_eq_false_iff_not,decide_eq_true_eq]at h2
 exact⟨h1,h2.1.1.1.1,h2.1.1.1.2,h2.1.1.2,h2.1.2,h2.2⟩
theorem aid(hv:Vt t){e:aG}(a:ak):mV t r (eS e r p a)=some (if okA t r a then(oo t r a).1 else[]):=by
 unfold mV okA oo eS
 by_cases h2:a.Kind=2
 ·simp only[h2,if_true]
  rw[show decide ((0:Int)<(([a.To]:List Int).length:Int))=true by simp,cond_true,agE,aV]
  by_cases hl:(0:Int)<((gZ t r a.To).length:Int)
  ·simp[hl]
  ·have:gZ t r a.To=[]:=List.eq_nil_of_length_eq_zero (by omega)
   simp[this]
 ·simp only[h2,if_false]
  rw[show decide ((0:Int)<(([]:List Int).length:Int))=false by simp,cond_false,alR,aV,if_pos (lW.2 hv),zd]
  cases kW t r a.To<;>rfl
theorem aie{e:aG}(hE:Ve e)(ha:a∈cV e r p):mU e r (eS e r p a)=some (zm a):=by
 obtain⟨h1,h2,h3,h4,_,_⟩:=zp ha
 have hk:=hE.kind a h1
 have hb:=hE.bit h1
 have hl:=hE.small
 have hf:=ah7 hE h1
 rw[h2]at hf
 have ew:IntKind.wrap .u64 a.Bit=a.Bit:=wrap_u64 hb.1 (by omega)
 unfold mU
 simp only[jn]
 by_cases hk2:a.Kind=2
 ·rw[hk2]at hf
  have e1:(eS e r p a).Frame.fk=[a.To]:=by unfold eS;simp[hk2]
  rw[e1,show decide ((0:Int)<(([a.To]:List Int).length:Int))=true by simp,cond_true,uj e _ _ _ (by omega),aV,show(eS e r p a).To=a.To from rfl,hf]
  simp only[ew,decide_eq_true hb.1,chk,cond_true,tQ hb.1 hb.2]
  rfl
 ·have hk1:a.Kind=1:=by omega
  rw[hk1]at hf
  have e1:(eS e r p a).Frame.fk=[]:=by unfold eS;simp[hk2]
  rw[e1,show decide ((0:Int)<(([]:List Int).length:Int))=false by simp,cond_false,uj e _ _ _ (by omega),aV,show(eS e r p a).To=a.To from rfl,hf]
  simp only[ew,decide_eq_true hb.1,chk,cond_true,tQ hb.1 hb.2]
  rfl
def cvV(x:cU):aM:=aM.mk x.aN x.aQ
def cvA(x:aM):cU:=cU.mk x.bY x.cz
theorem aeM{α γ σ β:Type}(f:γ→α){B:Int→α→(σ→Option β)→σ→Option β}{B':Int→γ→(σ→Option β)→σ→Option β}{K:σ→Option β}(hB:∀j x Z s,B j (f x) Z s=B' j x Z s):∀(l:List γ) (j:Nat) (s:σ),bF (l.map f) j B K s=bF l j B' K s
 |[],_,_=>rfl
 |x::l,j,s=>by
  show B (j:Int) (f x) (bF (l.map f) (j+1) B K) s=B' (j:Int) x (bF l (j+1) B' K) s
  rw[hB,funext (aeM f hB l (j+1))]
theorem adv{e:aG}(hE:Ve e)(hv:Vt t){q:List cU}{C:List aU}{L:List cD}(hq:q.length≤800000)(hC:C.length≤2000)(hL:L.length≤800000)
  {K:List cU×List aU×List cD→Option (dy×Int)} :
  bF ((cV e r p).map (eS e r p)) 0 (λ(j2:Int) (e2:eP) (Z2:((List cU)×(List aU)×(List cD))→Option _) (sg:(List cU)×(List aU)×(List cD))=>match sg with|(dR,m_5,m_6)=>jn (λ(sg:(List cU)×(List aU)×(List cD))=>match sg with|(gW,m_7,m_8)=>Z2 (gW,m_7,m_8)) λJ3=>bnd (mV t r e2) λ(dA:(List Int))=>bif decide ((dA.length:Int)=(0:Int))then bnd (mU e r e2) λ(kK:Int)=>bnd (dK m_6 ([(cD.mk r kK)]:List cD)) λ(l_3:List cD)=>J3 (dR,m_5,l_3)else bF dA 0 (λ(j3:Int) (e3:Int) (Z3:(Int×(List aU))→Option _) (sg:Int×(List aU))=>match sg with|(dI,m_9)=>bnd (dK m_9 ([(aU.mk dI e3 e2.Frame.aQ.Bits)]:List aU)) λ(l_4:List aU)=>Z3 (e3,l_4)) (λ(sg:Int×(List aU))=>match sg with|(dI,m_9)=>bif decide ((2000:Int)<(m_9.length:Int))then some ((dy.mk [] [] []),(11:Int))else bnd (dK dR ([(cU.mk e2.To e2.Frame.aQ)]:List cU)) λ(l_5:List cU)=>J3 (l_5,m_9,m_6)) (r,m_5)) K (q,C,L)
  = if 2000<(C++gY t r (eR e r p) (cV e r p)).length then some (dy.mk [] [] [],11)else K (q++(kO t r (goP e r p) (cV e r p)).map cvA,C++gY t r (eR e r p) (cV e r p),L++newL t r (cV e r p)):=by
 have hsl:(cV e r p).length≤64:=Nat.le_trans (List.length_filter_le _ _) hE.small
 refine(aeM (eS e r p) (B':=λ(j2:Int) (a:ak) (Z2:((List cU)×(List aU)×(List cD))→Option (dy×Int)) (sg:(List cU)×(List aU)×(List cD))=>match sg with|(dR,m_5,m_6)=>bnd (mV t r (eS e r p a)) λ(dA:(List Int))=>bif decide ((dA.length:Int)=(0:Int))then bnd (mU e r (eS e r p a)) λ(kK:Int)=>bnd (dK m_6 ([(cD.mk r kK)]:List cD)) λ(l_3:List cD)=>Z2 (dR,m_5,l_3)else bF dA 0 (λ(j3:Int) (e3:Int) (Z3:(Int×(List aU))→Option _) (sg:Int×(List aU))=>match sg with|(dI,m_9)=>bnd (dK m_9 ([(aU.mk dI e3 (eR e r p))]:List aU)) λ(l_4:List aU)=>Z3 (e3,l_4)) (λ(sg:Int×(List aU))=>match sg with|(dI,m_9)=>bif decide ((2000:Int)<(m_9.length:Int))then some ((dy.mk [] [] []),(11:Int))else bnd (dK dR ([(cU.mk a.To (goP e r p))]:List cU)) λ(l_5:List cU)=>Z2 (l_5,m_9,m_6)) (r,m_5)) (by rintro j x Z ⟨q1,q2,q3⟩;rfl) _ _ _).trans ?_
 refine jX (L:=cV e r p) (λpr (sg:List cU×List aU×List cD)=>sg=(q++(kO t r (goP e r p) pr).map cvA,C++gY t r (eR e r p) pr,L++newL t r pr)∧(C++gY t r (eR e r p) pr).length≤2000)
  (λpr l=>if 2000<(C++gY t r (eR e r p) (cV e r p)).length then some (dy.mk [] [] [],11)else K (q++(kO t r (goP e r p) (cV e r p)).map cvA,C++gY t r (eR e r p) (cV e r p),L++newL t r (cV e r p))) ?_ ?_ _ [] (q,C,L) rfl ?_
 ·rintro s ⟨hs,hl⟩
  rw[if_neg (by omega),hs]
 ·rintro pr a rest s Z h ⟨hi,hl⟩ hZ
  subst hi
  have ha:a∈cV e r p:=by rw[←h];simp
  obtain⟨h1,h2,h3,h4,h5,h6⟩:=zp ha
  have hb:=hE.bit h1
  have aeK:pr.length≤64:=by
   have:=congrArg List.length h
   rw[List.length_append]at this
   omega
  have hQl:((kO t r (goP e r p) pr).map cvA).length≤64:=by
   unfold kO;rw[List.length_map,List.length_map];exact Nat.le_trans (List.length_filter_le _ _) aeK
  have hLl:(newL t r pr).length≤64:=by
   unfold newL;rw[List.length_map];exact Nat.le_trans (List.length_filter_le _ _) aeK
  have hwl:=afB (t:=t) (r:=r) (a:=a)
  simp only[aid hv (e:=e) (p:=p),aV]
  cases hok:okA t r a
  ·simp only[Bool.false_eq_true,if_false,List.length_nil,Int.natCast_zero,decide_true,cond_true,aie hE ha,aV]
   rw[mY (by simp;omega),aV]
   refine hZ _ ?_
   rw[xY,hok]
   refine⟨?_,by simpa using hl⟩
   simp[kO,newL,List.filter_append,List.filter_cons,hok]
  ·have hp:=aeI hok
   simp only[if_true]
   rw[decide_eq_false (by omega),cond_false]
   rw[abj _ _ _ _ (by simp at hl ⊢;omega)]
   have e1:C++gY t r (eR e r p) pr++nP (eR e r p) r (oo t r a).1=C++gY t r (eR e r p) (pr++[a]):=by
    rw[xY,hok];simp
   show(bif decide ((2000:Int)<((C++gY t r (eR e r p) pr++nP (eR e r p) r (oo t r a).1).length:Int))then _ else _)=_
   rw[e1]
   by_cases hb2:2000<(C++gY t r (eR e r p) (pr++[a])).length
   ·rw[decide_eq_true (by omega),cond_true,if_pos]
    have:=aeJ (t:=t) (r:=r) (b:=eR e r p) (pr++[a]) rest
    rw[List.append_assoc,List.singleton_append,h]at this
    rw[List.length_append]at hb2 ⊢
    omega
   ·rw[decide_eq_false (by omega),cond_false,mY (by rw[List.length_append];omega),aV]
    refine hZ _ ⟨?_,by omega⟩
    have hend:=ar3 (t:=t) (r:=r) (a:=a) (λhk hh=>by
     have:=(hE.awh a h1).1 (by rw[h2];exact hh.symm)
     omega) hok
    refine Prod.ext ?_ (Prod.ext rfl ?_)
    ·simp[kO,List.filter_append,List.filter_cons,hok,cvA,hend]
    ·simp[newL,List.filter_append,List.filter_cons,hok]
 ·exact⟨by simp[kO,gY,newL],by simpa [gY]using hC⟩
theorem aif{e:aG}(hE:Ve e)(hv:Vt t)(hp:Pk e p)(hr:r∈ids t):kf e t p r=some (nQ e t 5000 [aM.mk r p] [] [] []):=by
 have hl:=hE.small
 have hnr:=hv.nr
 unfold kf
 simp only[jn,iY e (show e.List.length≤1000000 by omega),mK.2 hE,aV,nT,lW.2 hv,oE,hp.v,wW,jU.1 hr,wC,hp.agT,decide_true,Bool.and_true,Bool.not_true,cond_false]
 refine Ok.eq (Ok.whl (λsg:List cU×Int×List cw×List aU×List cD=>match sg with|(Q,i,D,C,L)=>nQ e t 5000 ((Q.drop i.toNat).map cvV) D C L=nQ e t 5000 [aM.mk r p] [] [] []∧(∀v∈Q,Pk e v.aQ)∧C.length≤2000∧Q.length≤C.length+1∧(0≤i∧i≤Q.length)∧D.length≤64*i.toNat∧L.length≤65*i.toNat) (λsg=>runM ((sg.1.drop sg.2.1.toNat).map cvV) sg.2.2.2.1) ⟨rfl,by simpa using hp,by simp,by simp,by simp,by simp,by simp⟩ (by show runM [aM.mk r p] []<_;simp[runM]) ?_)
 rintro⟨Q,i,D,C,L⟩ Z ⟨h1,h2,h3,h4,⟨i0,i1⟩,h6,h7⟩ hZ
 dsimp only
 by_cases hi:i<(Q.length:Int)
 ·rw[decide_eq_true hi,cond_true]
  obtain⟨v,hv1,hvm,hv2⟩:=(iX i0 hi)
  rw[hv1,aV]
  have hpv:=h2 v hvm
  have anZ:Q.drop i.toNat=v::Q.drop (i.toNat+1):=by
   obtain⟨hlt,he⟩:=List.getElem?_eq_some_iff.1 hv2
   rw[List.drop_eq_getElem_cons hlt,he]
  have hfw:acO e v.aN v.aQ=(oK e v.aN v.aQ,0):=by
   unfold acO;rw[if_pos (mK.2 hE),hpv.v,hpv.agT];rfl
  rw[tW e _ _ (by omega),aV,hfw,abk hE,aV]
  have hD:(qU e v.aN v.aQ).length≤64:=by unfold qU;rw[List.length_map];exact Nat.le_trans (List.length_filter_le _ _) hl
  have hS:(cV e v.aN v.aQ).length≤64:=Nat.le_trans (List.length_filter_le _ _) hl
  have hLn:(newL t v.aN (cV e v.aN v.aQ)).length≤64:=by unfold newL;rw[List.length_map];exact Nat.le_trans (List.length_filter_le _ _) hS
  have hlo:(pQ e v.aN v.aQ).length≤1:=by unfold pQ;split<;>simp
  rw[zU (by omega),aV]
  have agV:∀(J:List cD→Option (dy×Int)),(bif !decide ((oK e v.aN v.aQ).jL=(0:Int))then bnd (dK L ([(cD.mk v.aN (oK e v.aN v.aQ).jL)]:List cD)) λ(l_2:List cD)=>J l_2 else J L)=J (L++pQ e v.aN v.aQ):=λJ=>by
   unfold pQ
   by_cases hz:(oK e v.aN v.aQ).jL=0
   ·rw[decide_eq_true hz,if_pos hz];simp
   ·rw[decide_eq_false hz,if_neg hz]
    simp only[Bool.not_false,cond_true]
    rw[mY (by omega),aV]
  simp only[jn]
  refine Eq.subst (motive:=λz=>Ok z _) (agV _).symm ?_
  refine Eq.subst (motive:=λz=>Ok z _) (adv (e:=e) (t:=t) hE hv (r:=v.aN) (p:=v.aQ) (q:=Q) (C:=C) (L:=L++pQ e v.aN v.aQ) (by omega) h3 (by rw[List.length_append];omega)).symm ?_
  have aeL:nQ e t 5000 (cvV v::(Q.drop (i.toNat+1)).map cvV) D C L=if 2000<(C++nh e t (cvV v)).length then(dy.mk [] [] [],11)else nQ e t 4999 ((Q.drop (i.toNat+1)).map cvV++qV e t (cvV v)) (D++qU e v.aN v.aQ) (C++nh e t (cvV v)) (L++abh e t (cvV v)):=rfl
  rw[anZ,List.map_cons]at h1
  show Ok (if 2000<(C++nh e t (cvV v)).length then _ else _) _
  by_cases hb:2000<(C++nh e t (cvV v)).length
  ·rw[if_pos hb]
   refine⟨_,rfl,?_⟩
   rw[←h1,aeL,if_pos hb]
  ·rw[if_neg hb]
   have hless:=abi (e:=e) (t:=t) (q:=(Q.drop (i.toNat+1)).map cvV) hb
   have hq2:=acN (t:=t) (r:=v.aN) (b:=eR e v.aN v.aQ) (p:=goP e v.aN v.aQ) (cV e v.aN v.aQ)
   have hm5:runM (cvV v::(Q.drop (i.toNat+1)).map cvV) C≤4002:=by
    unfold runM
    rw[List.length_cons,List.length_map,List.length_drop];omega
   have agW:nQ e t 4999 ((Q.drop (i.toNat+1)).map cvV++qV e t (cvV v)) (D++qU e v.aN v.aQ) (C++nh e t (cvV v)) (L++abh e t (cvV v))=nQ e t 5000 ((Q.drop (i.toNat+1)).map cvV++qV e t (cvV v)) (D++qU e v.aN v.aQ) (C++nh e t (cvV v)) (L++abh e t (cvV v)):=
    wD _ _ _ _ _ _ (by omega) (by omega)
   have ei:w64 (i+1)=i+1:=gj (by omega) (by omega)
   have ein:(i+1).toNat=i.toNat+1:=by omega
   have an0:((Q++(kO t v.aN (goP e v.aN v.aQ) (cV e v.aN v.aQ)).map cvA).drop (i.toNat+1)).map cvV=(Q.drop (i.toNat+1)).map cvV++qV e t (cvV v):=by
    rw[List.drop_append_of_le_length (by omega),List.map_append,List.map_map]
    congr 1
    exact List.map_id' _
   rw[ei]
   refine hZ _ ⟨?_,λu hu=>?_,(show(C++nh e t (cvV v)).length≤2000 by omega),?_,⟨by omega,?_⟩,?_,?_⟩ ?_
   ·rw[ein,an0,←h1,aeL,if_neg hb,agW,List.append_assoc];rfl
   ·rcases List.mem_append.1 hu with hu|hu
    ·exact h2 u hu
    ·obtain⟨w,hw,rfl⟩:=List.mem_map.1 hu
     obtain⟨a,ha,rfl⟩:=List.mem_map.1 hw
     obtain⟨_,_,_,_,s5,s6⟩:=zp (List.mem_filter.1 ha).1
     have ht:=(pI.1 hpv.v).2.2.2.2.1
     exact hpv.go hE v.aN s6 (by omega)
   ·show(Q++(kO t v.aN (goP e v.aN v.aQ) (cV e v.aN v.aQ)).map cvA).length≤(C++gY t v.aN (eR e v.aN v.aQ) (cV e v.aN v.aQ)).length+1
    rw[List.length_append,List.length_append,List.length_map];omega
   ·show i+1≤((Q++(kO t v.aN (goP e v.aN v.aQ) (cV e v.aN v.aQ)).map cvA).length:Int)
    rw[List.length_append];omega
   ·rw[ein,List.length_append];omega
   ·rw[ein]
    show(L++pQ e v.aN v.aQ++newL t v.aN (cV e v.aN v.aQ)).length≤65*(i.toNat+1)
    rw[List.length_append,List.length_append];omega
   ·show runM (((Q++(kO t v.aN (goP e v.aN v.aQ) (cV e v.aN v.aQ)).map cvA).drop (i+1).toNat).map cvV) (C++nh e t (cvV v))<runM ((Q.drop i.toNat).map cvV) C
    rw[ein,an0,anZ,List.map_cons];exact hless
 ·rw[decide_eq_false hi,cond_false]
  have:Q.drop i.toNat=[]:=List.drop_of_length_le (by omega)
  rw[this]at h1
  exact⟨_,rfl,h1⟩
noncomputable def wF(e:aG)(t:af)(p:aD)(r:Int):dy×Int:=
 if jY e=0∧gJ t=0∧ng p=true then(if r∈ids t then(if nk e p=0 then nQ e t 5000 [aM.mk r p] [] [] []else(dy.mk [] [] [],nk e p))else(dy.mk [] [] [],4))else(dy.mk [] [] [],1)
theorem an1{e:aG}(hp:ng p=true)(hs:nk e p=0):Pk e p:=by
 unfold nk at hs
 by_cases h1:p.Mode=2
 ·by_cases h2:p.Length=e.Length
  ·exact⟨hp,h1,h2⟩
  ·rw[if_pos h1,if_neg h2]at hs;cases hs
 ·rw[if_neg h1]at hs;cases hs
theorem ae3(e:aG)(t:af)(p:aD)(r:Int)(hl:e.List.length≤1000)(hr:t.aq.length≤1000):fP e t p r=some (wF e t p r):=by
 by_cases h:jY e=0∧gJ t=0∧ng p=true
 ·obtain⟨h1,h2,h3⟩:=h
  by_cases hid:r∈ids t
  ·by_cases hs:nk e p=0
   ·rw[ar2 (mK.1 h1) (lW.1 h2) (an1 h3 hs) hid]
    unfold wF;rw[if_pos ⟨h1,h2,h3⟩,if_pos hid,if_pos hs]
   ·unfold fP wF
    simp only[jn,lY e (show e.List.length≤1000000 by omega),h1,aV,rE,h2,lZ,h3,acB t r (by omega),jU.1 hid,zn,decide_true,Bool.and_true,Bool.not_true,cond_false,decide_eq_false hs,Bool.not_false,cond_true,and_self,if_true,if_pos hid,if_neg hs]
  ·have hh:hasB t r=false:=by cases hb:hasB t r;rfl;exact absurd (jU.2 hb) hid
   unfold fP wF
   simp only[jn,lY e (show e.List.length≤1000000 by omega),h1,aV,rE,h2,lZ,h3,acB t r (by omega),hh,decide_true,Bool.and_false,Bool.not_true,cond_false,Bool.not_false,cond_true,and_self,if_true,if_neg hid]
 ·unfold wF fP
  rw[if_neg h]
  simp only[jn,lY e (show e.List.length≤1000000 by omega),aV,rE,lZ]
  by_cases h1:jY e=0
  ·by_cases h2:gJ t=0
   ·have h3:ng p=false:=by cases hp:ng p;rfl;exact absurd ⟨h1,h2,hp⟩ h
    simp[h1,h2,h3]
   ·simp[h1,h2]
  ·simp[h1]
theorem adw(e:aG)(t:af)(p:aD)(r:Int)(hl:e.List.length≤1000)(hr:t.aq.length≤1000):kf e t p r=some (wF e t p r):=by
 by_cases h:jY e=0∧gJ t=0∧ng p=true
 ·obtain⟨h1,h2,h3⟩:=h
  by_cases hid:r∈ids t
  ·by_cases hs:nk e p=0
   ·rw[aif (mK.1 h1) (lW.1 h2) (an1 h3 hs) hid]
    unfold wF;rw[if_pos ⟨h1,h2,h3⟩,if_pos hid,if_pos hs]
   ·unfold kf wF
    simp only[jn,iY e (show e.List.length≤1000000 by omega),h1,aV,nT,h2,oE,h3,wW,jU.1 hid,wC,decide_true,Bool.and_true,Bool.not_true,cond_false,decide_eq_false hs,Bool.not_false,cond_true,and_self,if_true,if_pos hid,if_neg hs]
  ·have hh:hasB t r=false:=by cases hb:hasB t r;rfl;exact absurd (jU.2 hb) hid
   unfold kf wF
   simp only[jn,iY e (show e.List.length≤1000000 by omega),h1,aV,nT,h2,oE,h3,wW,hh,decide_true,Bool.and_false,Bool.not_true,cond_false,Bool.not_false,cond_true,and_self,if_true,if_neg hid]
 ·unfold wF kf
  rw[if_neg h]
  simp only[jn,iY e (show e.List.length≤1000000 by omega),aV,nT,oE]
  by_cases h1:jY e=0
  ·by_cases h2:gJ t=0
   ·have h3:ng p=false:=by cases hp:ng p;rfl;exact absurd ⟨h1,h2,hp⟩ h
    simp[h1,h2,h3]
   ·simp[h1,h2]
  ·simp[h1]
theorem vS{α β:Type}{a:List α}{q:α→α→Bool}(hq:∀x,q x x=true)(n:Option β){B:Int→α→(Unit→Option β)→Unit→Option β}{K:Unit→Option β}
  (hB:∀j x Z,B j x Z ()=bnd (elO a j) λe=>bif !q x e then n else Z ()):bF a 0 B K ()=K ():=
 jX (L:=a) (λ_ _=>True) (λ_ _=>K ()) (λs _=>rfl) (λp x r s Z h _ hZ=>by
  rw[hB,←h,y8,aV,hq];exact hZ () trivial) a [] () rfl trivial
theorem aeN(p:aD):gN p p=true:=by simp[gN]
theorem agX(x:dy):lu x x=some true:=by
 unfold lu
 simp only[decide_true,Bool.not_true,Bool.or_false,cond_false]
 refine(vS (a:=x.dD) (q:=qh) (λd=>by simp[qh]) (some false) (by intros;rfl)).trans ?_
 refine(vS (a:=x.dF) (q:=qi) (λd=>by simp[qi]) (some false) (by intros;rfl)).trans ?_
 exact vS (a:=x.gm) (q:=wL) (λd=>by simp[wL]) (some false) (by intros;rfl)
theorem aeO(x:dz):jJ x x=some true:=by
 unfold jJ
 simp only[decide_true,Bool.not_true,Bool.or_false,cond_false]
 refine jX (L:=x.dS) (λ_ _=>True) (λ_ _=>some true) (λs _=>rfl) (λp c r s Z h _ hZ=>?_) x.dS [] () rfl trivial
 have e0:elO x.dS (p.length:Int)=some c:=by rw[←h,y8]
 simp only[e0,aV,decide_true,Bool.not_true,aeN,Bool.or_false,cond_false]
 refine(vS (a:=c.Frame.fk) (q:=λa b=>decide (a=b)) (λd=>by simp) (some false) (by intros;rfl)).trans ?_
 exact hZ () trivial
end Go.Proofs.YtdjeacigeegklaaGreat
