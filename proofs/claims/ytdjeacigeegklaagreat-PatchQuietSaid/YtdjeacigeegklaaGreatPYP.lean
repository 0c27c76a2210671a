/- Plain: the abF Forward and Run zz to what the wU do. No condition but bK bn stand in each. -/
import Derived.Test.YtdjeacigeegklaaGreatPYO
import Derived.Test.YtdjeacigeegklaaGreatPYJ
namespace Go.Proofs.YtdjeacigeegklaaGreat
set_option linter.all false
open Go
noncomputable def rR(e:aC)(r:Int)(p:aH):cG×Int:=if l8 e=0 then bif l9 p then(if lW e p=0 then(gf e r p,0)else(cG.mk 0 0 [],lW e p))else(cG.mk 0 0 [],1)else(cG.mk 0 0 [],1)
theorem ado(e:aC)(r:Int)(p:aH)(hl:e.List.length≤1000):jL e r p=some (rR e r p):=by
 unfold jL rR
 simp only[jn,wE e (by omega),aM,mU,ajM]
 by_cases hv:l8 e=0
 ·simp only[hv,decide_true,Bool.not_true,cond_false,if_true]
  cases hp:l9 p
  ·rfl
  ·by_cases hs:lW e p=0
   ·simp only[hs,decide_true,Bool.not_true,cond_false,if_true,aiy (iX.1 hv),aM,cond_true]
   ·simp[hs]
 ·simp[hv]
theorem uV(e:aC)(r:Int)(p:aH)(hl:e.List.length≤1000):lT e r p=some (rR e r p):=by
 unfold lT rR
 simp only[iy e (show e.List.length≤1000000 by omega),aM,pH,xP,aeT e r (show e.List.length≤1000000 by omega)]
 by_cases hve:l8 e=0
 rotate_left
 ·simp only[jn];simp[hve]
 have hv:=iX.1 hve
 cases hp:l9 p
 ·simp only[jn];simp[hve]
 by_cases hs:lW e p=0
 rotate_left
 ·simp only[jn];simp[hve,hs]
 unfold jn
 simp only[hve,hs,decide_true,Bool.not_true,cond_false,if_true,cond_true]
 unfold gf cH
 refine jQ (L:=e.List) (λq (sg:Int×Int×List bg)=>sg=((q.filter (eO r p)).foldl orA 0,(q.filter (iz r p)).foldl orA 0,(q.filter (eY e r p)).map (fM e r p))) (λq l=>some (cG.mk ((e.List.filter (eO r p)).foldl orA 0) ((e.List.filter (iz r p)).foldl orA 0) ((e.List.filter (eY e r p)).map (fM e r p)),(0:Int))) (λs hs=>by rw[hs]) (λq x rest s Z h hi hZ=>?_) e.List [] _ rfl rfl
 subst hi
 have hx:x∈e.List:=by rw[←h];simp
 obtain⟨b0,b1⟩:=hv.bit hx
 have hel:=hv.small
 have hql:q.length≤64:=by
  have:e.List.length=q.length+(rest.length+1):=by rw[←h];simp
  omega
 have hfl:∀f:ay→Bool,(q.filter f).length≤64:=λf=>Nat.le_trans (List.length_filter_le _ _) hql
 have pass:(∀f,f=eY e r p∨f=eO r p∨f=iz r p→f x=false)→Z ((q.filter (eO r p)).foldl orA 0,(q.filter (iz r p)).foldl orA 0,(q.filter (eY e r p)).map (fM e r p))=some (cG.mk ((e.List.filter (eO r p)).foldl orA 0) ((e.List.filter (iz r p)).foldl orA 0) ((e.List.filter (eY e r p)).map (fM e r p)),(0:Int)):=λhf=>hZ _ (by
  simp only[List.filter_append,List.filter_cons,List.filter_nil,hf _ (.inl rfl),hf _ (.inr (.inl rfl)),hf _ (.inr (.inr rfl)),Bool.false_eq_true,if_false,List.append_nil])
 have ew:IntKind.wrap .u64 x.Bit=x.Bit:=wrap_u64 b0 (by omega)
 simp only[ew]
 rw[decide_eq_true b0,wD b0 b1,abh b0 b1]
 simp only[chk,cond_true]
 have eh:(!decide (x.aK=r)||!tbi p.Bits x.Bit.toNat)=!kj r p x:=by unfold kj;cases decide (x.aK=r)<;>rfl
 rw[eh]
 cases hh:kj r p x
 ·exact pass λf hf=>by rcases hf with rfl|rfl|rfl<;>simp[eY,eO,iz,hh]
 simp only[Bool.not_true,cond_false]
 by_cases h3:x.Kind=3
 ·rw[decide_eq_true h3,cond_true]
  refine hZ _ ?_
  have e1:eY e r p x=false:=by simp[eY,h3]
  have e2:eO r p x=true:=by simp[eO,hh,h3]
  have e3:iz r p x=false:=by simp[iz,h3]
  simp only[List.filter_append,List.filter_cons,List.filter_nil,e1,e2,e3,Bool.false_eq_true,if_false,if_true,List.append_nil,List.foldl_append,List.foldl_cons,List.foldl_nil]
  rfl
 rw[decide_eq_false h3,cond_false]
 by_cases h4:p.TTL=0
 ·rw[decide_eq_true h4,cond_true]
  refine hZ _ ?_
  have e1:eY e r p x=false:=by simp[eY,h4]
  have e2:eO r p x=false:=by simp[eO,h3]
  have e3:iz r p x=true:=by simp[iz,hh,h3,h4]
  simp only[List.filter_append,List.filter_cons,List.filter_nil,e1,e2,e3,Bool.false_eq_true,if_false,if_true,List.append_nil,List.foldl_append,List.foldl_cons,List.foldl_nil]
  rfl
 rw[decide_eq_false h4,cond_false]
 by_cases h5:ep e r p=0
 ·have h5':aS .andNot .u64 p.Bits (qK e r)=0:=h5
  rw[decide_eq_true h5']
  exact pass λf hf=>by rcases hf with rfl|rfl|rfl<;>simp[eY,eO,iz,h3,h4,h5]
 ·have h5':¬aS .andNot .u64 p.Bits (qK e r)=0:=h5
  rw[decide_eq_false h5']
  simp only[Bool.not_false,cond_true]
  have e1:eY e r p x=true:=by simp[eY,hh,h3,h4,h5]
  have e2:eO r p x=false:=by simp[eO,h3]
  have e3:iz r p x=false:=by simp[iz,h4]
  have:=hfl (eY e r p)
  have fin:∀rt:List Int,rt=(if x.Kind=2 then[x.To]else[])→(bnd (dB ((q.filter (eY e r p)).map (fM e r p)) ([(bg.mk x.To (eP.mk rt (aH.mk p.Mode p.bU p.Set p.Length (w64 (p.TTL-(1:Int))) p.cR p.cS p.dV (aS .andNot .u64 p.Bits (qK e r)) p.cu)))]:List bg)) λ(l_1:List bg)=>Z ((q.filter (eO r p)).foldl orA 0,(q.filter (iz r p)).foldl orA 0,l_1))=some (cG.mk ((e.List.filter (eO r p)).foldl orA 0) ((e.List.filter (iz r p)).foldl orA 0) ((e.List.filter (eY e r p)).map (fM e r p)),(0:Int)):=λrt hrt=>by
   rw[ki (by simp;omega),aM]
   refine hZ _ ?_
   simp only[List.filter_append,List.filter_cons,List.filter_nil,e1,e2,e3,Bool.false_eq_true,if_false,if_true,List.append_nil,List.map_append,List.map_cons,List.map_nil,hrt]
   rfl
  by_cases h2:x.Kind=2
  ·rw[decide_eq_true h2,cond_true];exact fin _ (by rw[if_pos h2])
  ·rw[decide_eq_false h2,cond_false];exact fin _ (by rw[if_neg h2])
theorem xQ:∀{l:List ay} (k:Int),(l.Pairwise λa b=>a.Bit<b.Bit)→l.filter (λa=>decide (a.Bit<k+1))=l.filter (λa=>decide (a.Bit<k))++l.filter (λa=>decide (a.Bit=k))
 |[],_,_=>rfl
 |a::r,k,h=>by
  rw[List.pairwise_cons]at h
  have ih:=xQ k h.2
  simp only[List.filter_cons]
  by_cases h1:a.Bit<k
  ·have h2:a.Bit<k+1:=by omega
   have h3:¬a.Bit=k:=by omega
   simp[h1,h2,h3,ih]
  ·have hr:r.filter (λa=>decide (a.Bit<k))=[]:=List.filter_eq_nil_iff.2 λb hb=>by have:=h.1 b hb;simp;omega
   by_cases h2:a.Bit=k
   ·have h3:a.Bit<k+1:=by omega
    have hr2:r.filter (λa=>decide (a.Bit=k))=[]:=List.filter_eq_nil_iff.2 λb hb=>by have:=h.1 b hb;simp;omega
    rw[hr,hr2]at ih
    simp[h1,h2,ih,hr,hr2];omega
   ·have h3:¬a.Bit<k+1:=by omega
    have hr2:r.filter (λa=>decide (a.Bit=k))=[]:=List.filter_eq_nil_iff.2 λb hb=>by have:=h.1 b hb;simp;omega
    rw[hr,hr2]at ih
    simp[h1,h2,h3,ih,hr,hr2]
theorem acw{e:aC}(hE:Ve e)(r:Int)(p:aH):lM r (gf e r p).Local p=some (iH e r p):=by
 unfold lM iH
 have hl:=hE.small
 have amc:(e.List.filter (eO r p)).Pairwise λa b=>a.Bit<b.Bit:=hE.asc.sublist List.filter_sublist
 have hfl:∀f:ay→Bool,((e.List.filter (eO r p)).filter f).length≤64:=λf=>Nat.le_trans (List.length_filter_le _ _) (Nat.le_trans (List.length_filter_le _ _) hl)
 refine Ok.eq (Ok.mM (λj (out:List bO)=>out=((e.List.filter (eO r p)).filter λa=>decide (a.Bit<j)).map (agr r p)) 0 64 ?_ ?_ _ _ _ rfl (by omega) (by omega) ?_)
 ·rintro j out Z h1 h2 hi hZ
  subst hi
  have ew:IntKind.wrap .u64 j=j:=wrap_u64 h1 (by omega)
  simp only[jn,ew]
  refine Ok.chk (by simp;omega) ?_
  rw[air _ h1 h2]
  cases hb:tbi (gf e r p).Local j.toNat
  ·simp only[Bool.false_eq_true,if_false]
   refine hZ _ ?_
   rw[xQ j amc]
   rw[show(e.List.filter (eO r p)).filter (λa=>decide (a.Bit=j))=[]from List.filter_eq_nil_iff.2 λa ha hd=>by
    obtain⟨a1,a2⟩:=List.mem_filter.1 ha
    have ha2:=ajO hE (r:=r) (p:=p) a1
    simp only[decide_eq_true_eq]at hd
    rw[hd,hb,a2]at ha2;cases ha2]
   simp
  ·simp only[if_true,decide_true,cond_true]
   refine Ok.chk (by simp;omega) ?_
   rw[wD h1 h2]
   have:=hfl λa=>decide (a.Bit<j)
   refine Ok.bnd (tv (by rw[List.length_map,List.length_singleton];omega)) λm hm=>hZ _ ?_
   rw[hm.1,xQ j amc,List.map_append]
   congr 1
   obtain⟨a,ha,h3,h4⟩:=(ajN hE j.toNat).1 hb
   have hone:(e.List.filter (eO r p)).filter (λa=>decide (a.Bit=j))=[a]:=by
    have hm1:a∈(e.List.filter (eO r p)).filter (λa=>decide (a.Bit=j)):=List.mem_filter.2 ⟨List.mem_filter.2 ⟨ha,h3⟩,by simp;omega⟩
    have hall:∀b∈(e.List.filter (eO r p)).filter (λa=>decide (a.Bit=j)),b=a:=λb hb=>by
     obtain⟨b1,b2⟩:=List.mem_filter.1 hb
     simp only[decide_eq_true_eq]at b2
     exact hE.abe (List.mem_filter.1 b1).1 ha (by omega)
    have hp:((e.List.filter (eO r p)).filter (λa=>decide (a.Bit=j))).Pairwise λa b=>a.Bit<b.Bit:=amc.sublist List.filter_sublist
    generalize (e.List.filter (eO r p)).filter (λa=>decide (a.Bit=j))=l at hm1 hall hp
    cases l with
    |nil=>cases hm1
    |cons b l=>
     cases l with
     |nil=>rw[hall b (by simp)]
     |cons c l=>
      rw[List.pairwise_cons]at hp
      have:=hp.1 c (by simp)
      rw[hall b (by simp),hall c (by simp)]at this;omega
   rw[hone]
   have:a.Bit.toNat=j.toNat:=by omega
   simp[agr,aaE,this]
 ·rintro j out h1 h2 hi
  have hj:j=64:=h2 (by omega)
  subst hj
  rw[hi]
  refine⟨_,rfl,?_⟩
  rw[show(e.List.filter (eO r p)).filter (λa=>decide (a.Bit<64))=e.List.filter (eO r p)from List.filter_eq_self.2 λa ha=>by
   have:=hE.bit (List.mem_filter.1 ha).1;simpa using this.2]
 ·rw[show(e.List.filter (eO r p)).filter (λa=>decide (a.Bit<0))=[]from List.filter_eq_nil_iff.2 λa ha=>by
   have:=hE.bit (List.mem_filter.1 ha).1;simp;omega]
  rfl
theorem aaG:∀(l:List Int) (x:Int),(x::l).getLast?=some (acu x l)
 |[],x=>rfl
 |y::l,x=>by rw[List.getLast?_cons_cons];exact aaG l y
variable {a:ay}{r:Int}{t:aa}
theorem aqS(hne:a.Kind=2→r≠a.To)(h:okA t r a=true):acu r (mz t r a).1=a.To:=by
 unfold okA at h
 unfold mz at *
 by_cases h2:a.Kind=2
 ·rw[if_pos h2]at *
  simp only[decide_eq_true_eq]at h
  by_cases hs:(dT t r a.To).isSome=true
  ·have:=ajB hs
   rw[aaG]at this
   exact Option.some.inj this
  ·exfalso
   have:ga t r a.To=[]:=by
    by_cases hin:eU t=0∧r∈ids t∧a.To∈ids t
    ·exact yq a.To (tC (by simpa using hs)) (hne h2) []
    ·exact xh hin
   rw[this]at h;simp at h
 ·rw[if_neg h2];rfl
variable {p:aH}
theorem nH{e:aC}(h:a∈cH e r p):a∈e.List∧a.aK=r∧tbi p.Bits a.Bit.toNat=true∧a.Kind≠3∧p.TTL≠0∧ep e r p≠0:=by
 obtain⟨h1,h2⟩:=List.mem_filter.1 h
 simp only[eY,kj,Bool.and_eq_true,Bool.not_eq_true',decide_eq_false_iff_not,decide_eq_true_eq]at h2
 exact⟨h1,h2.1.1.1.1,h2.1.1.1.2,h2.1.1.2,h2.1.2,h2.2⟩
theorem ajP(hv:Vt t){e:aC}(a:ay):nU t r (fM e r p a)=some (if okA t r a then(mz t r a).1 else[]):=by
 unfold nU okA mz fM
 by_cases h2:a.Kind=2
 ·simp only[h2,if_true]
  rw[show decide ((0:Int)<(([a.To]:List Int).length:Int))=true by simp,cond_true,y9,aM]
  by_cases hl:(0:Int)<((ga t r a.To).length:Int)
  ·simp[hl]
  ·have:ga t r a.To=[]:=List.eq_nil_of_length_eq_zero (by omega)
   simp[this]
 ·simp only[h2,if_false]
  rw[show decide ((0:Int)<(([]:List Int).length:Int))=false by simp,cond_false,alP,aM,if_pos (fK.2 hv),aaw]
  cases gP t r a.To<;>rfl
theorem ajQ{e:aC}(hE:Ve e)(ha:a∈cH e r p):nT e r (fM e r p a)=some (aaE a):=by
 obtain⟨h1,h2,h3,h4,_,_⟩:=nH ha
 have hk:=hE.kind a h1
 have hb:=hE.bit h1
 have hl:=hE.small
 have hf:=aeV hE h1
 rw[h2]at hf
 have ew:IntKind.wrap .u64 a.Bit=a.Bit:=wrap_u64 hb.1 (by omega)
 unfold nT
 simp only[jn]
 by_cases hk2:a.Kind=2
 ·rw[hk2]at hf
  have e1:(fM e r p a).Frame.gZ=[a.To]:=by unfold fM;simp[hk2]
  rw[e1,show decide ((0:Int)<(([a.To]:List Int).length:Int))=true by simp,cond_true,vi e _ _ _ (by omega),aM,show(fM e r p a).To=a.To from rfl,hf]
  simp only[ew,decide_eq_true hb.1,chk,cond_true,wD hb.1 hb.2]
  rfl
 ·have hk1:a.Kind=1:=by omega
  rw[hk1]at hf
  have e1:(fM e r p a).Frame.gZ=[]:=by unfold fM;simp[hk2]
  rw[e1,show decide ((0:Int)<(([]:List Int).length:Int))=false by simp,cond_false,vi e _ _ _ (by omega),aM,show(fM e r p a).To=a.To from rfl,hf]
  simp only[ew,decide_eq_true hb.1,chk,cond_true,wD hb.1 hb.2]
  rfl
def cvV(x:dD):bp:=bp.mk x.aK x.aq
def cvA(x:bp):dD:=dD.mk x.cm x.gw
theorem agw{α γ σ β:Type}(f:γ→α){B:Int→α→(σ→Option β)→σ→Option β}{B':Int→γ→(σ→Option β)→σ→Option β}{K:σ→Option β}(hB:∀j x Z s,B j (f x) Z s=B' j x Z s):∀(l:List γ) (j:Nat) (s:σ),bD (l.map f) j B K s=bD l j B' K s
 |[],_,_=>rfl
 |x::l,j,s=>by
  show B (j:Int) (f x) (bD (l.map f) (j+1) B K) s=B' (j:Int) x (bD l (j+1) B' K) s
  rw[hB,funext (agw f hB l (j+1))]
theorem ae7{e:aC}(hE:Ve e)(hv:Vt t){q:List dD}{C:List aU}{L:List cz}(hq:q.length≤800000)(hC:C.length≤2000)(hL:L.length≤800000)
  {K:List dD×List aU×List cz→Option (cC×Int)} :
  bD ((cH e r p).map (fM e r p)) 0 (λ(j2:Int) (e2:bg) (Z2:((List dD)×(List aU)×(List cz))→Option _) (sg:(List dD)×(List aU)×(List cz))=>match sg with|(iO,m_5,m_6)=>jn (λ(sg:(List dD)×(List aU)×(List cz))=>match sg with|(su,m_7,m_8)=>Z2 (su,m_7,m_8)) λJ3=>bnd (nU t r e2) λ(fq:(List Int))=>bif decide ((fq.length:Int)=(0:Int))then bnd (nT e r e2) λ(lI:Int)=>bnd (dB m_6 ([(cz.mk r lI)]:List cz)) λ(l_3:List cz)=>J3 (iO,m_5,l_3)else bD fq 0 (λ(j3:Int) (e3:Int) (Z3:(Int×(List aU))→Option _) (sg:Int×(List aU))=>match sg with|(gn,m_9)=>bnd (dB m_9 ([(aU.mk gn e3 e2.Frame.aq.Bits)]:List aU)) λ(l_4:List aU)=>Z3 (e3,l_4)) (λ(sg:Int×(List aU))=>match sg with|(gn,m_9)=>bif decide ((2000:Int)<(m_9.length:Int))then some ((cC.mk [] [] []),(11:Int))else bnd (dB iO ([(dD.mk e2.To e2.Frame.aq)]:List dD)) λ(l_5:List dD)=>J3 (l_5,m_9,m_6)) (r,m_5)) K (q,C,L)
  = if 2000<(C++lN t r (ep e r p) (cH e r p)).length then some (cC.mk [] [] [],11)else K (q++(o5 t r (goP e r p) (cH e r p)).map cvA,C++lN t r (ep e r p) (cH e r p),L++newL t r (cH e r p)):=by
 have hsl:(cH e r p).length≤64:=Nat.le_trans (List.length_filter_le _ _) hE.small
 refine(agw (fM e r p) (B':=λ(j2:Int) (a:ay) (Z2:((List dD)×(List aU)×(List cz))→Option (cC×Int)) (sg:(List dD)×(List aU)×(List cz))=>match sg with|(iO,m_5,m_6)=>bnd (nU t r (fM e r p a)) λ(fq:(List Int))=>bif decide ((fq.length:Int)=(0:Int))then bnd (nT e r (fM e r p a)) λ(lI:Int)=>bnd (dB m_6 ([(cz.mk r lI)]:List cz)) λ(l_3:List cz)=>Z2 (iO,m_5,l_3)else bD fq 0 (λ(j3:Int) (e3:Int) (Z3:(Int×(List aU))→Option _) (sg:Int×(List aU))=>match sg with|(gn,m_9)=>bnd (dB m_9 ([(aU.mk gn e3 (ep e r p))]:List aU)) λ(l_4:List aU)=>Z3 (e3,l_4)) (λ(sg:Int×(List aU))=>match sg with|(gn,m_9)=>bif decide ((2000:Int)<(m_9.length:Int))then some ((cC.mk [] [] []),(11:Int))else bnd (dB iO ([(dD.mk a.To (goP e r p))]:List dD)) λ(l_5:List dD)=>Z2 (l_5,m_9,m_6)) (r,m_5)) (by rintro j x Z ⟨q1,q2,q3⟩;rfl) _ _ _).trans ?_
 refine jQ (L:=cH e r p) (λpr (sg:List dD×List aU×List cz)=>sg=(q++(o5 t r (goP e r p) pr).map cvA,C++lN t r (ep e r p) pr,L++newL t r pr)∧(C++lN t r (ep e r p) pr).length≤2000)
  (λpr l=>if 2000<(C++lN t r (ep e r p) (cH e r p)).length then some (cC.mk [] [] [],11)else K (q++(o5 t r (goP e r p) (cH e r p)).map cvA,C++lN t r (ep e r p) (cH e r p),L++newL t r (cH e r p))) ?_ ?_ _ [] (q,C,L) rfl ?_
 ·rintro s ⟨hs,hl⟩
  rw[if_neg (by omega),hs]
 ·rintro pr a rest s Z h ⟨hi,hl⟩ hZ
  subst hi
  have ha:a∈cH e r p:=by rw[←h];simp
  obtain⟨h1,h2,h3,h4,h5,h6⟩:=nH ha
  have hb:=hE.bit h1
  have auG:pr.length≤64:=by
   have:=congrArg List.length h
   rw[List.length_append]at this
   omega
  have hQl:((o5 t r (goP e r p) pr).map cvA).length≤64:=by
   unfold o5;rw[List.length_map,List.length_map];exact Nat.le_trans (List.length_filter_le _ _) auG
  have hLl:(newL t r pr).length≤64:=by
   unfold newL;rw[List.length_map];exact Nat.le_trans (List.length_filter_le _ _) auG
  have hwl:=aqR (t:=t) (r:=r) (a:=a)
  simp only[ajP hv (e:=e) (p:=p),aM]
  cases hok:okA t r a
  ·simp only[Bool.false_eq_true,if_false,List.length_nil,Int.natCast_zero,decide_true,cond_true,ajQ hE ha,aM]
   rw[ki (by simp;omega),aM]
   refine hZ _ ?_
   rw[agv,hok]
   refine⟨?_,by simpa using hl⟩
   simp[o5,newL,List.filter_append,List.filter_cons,hok]
  ·have hp:=agt hok
   simp only[if_true]
   rw[decide_eq_false (by omega),cond_false]
   rw[agu _ _ _ _ (by simp at hl ⊢;omega)]
   have e1:C++lN t r (ep e r p) pr++oF (ep e r p) r (mz t r a).1=C++lN t r (ep e r p) (pr++[a]):=by
    rw[agv,hok];simp
   show(bif decide ((2000:Int)<((C++lN t r (ep e r p) pr++oF (ep e r p) r (mz t r a).1).length:Int))then _ else _)=_
   rw[e1]
   by_cases hb2:2000<(C++lN t r (ep e r p) (pr++[a])).length
   ·rw[decide_eq_true (by omega),cond_true,if_pos]
    have:=amb (t:=t) (r:=r) (b:=ep e r p) (pr++[a]) rest
    rw[List.append_assoc,List.singleton_append,h]at this
    rw[List.length_append]at hb2 ⊢
    omega
   ·rw[decide_eq_false (by omega),cond_false,ki (by rw[List.length_append];omega),aM]
    refine hZ _ ⟨?_,by omega⟩
    have hend:=aqS (t:=t) (r:=r) (a:=a) (λhk hh=>by
     have:=(hE.acq a h1).1 (by rw[h2];exact hh.symm)
     omega) hok
    refine Prod.ext ?_ (Prod.ext rfl ?_)
    ·simp[o5,List.filter_append,List.filter_cons,hok,cvA,hend]
    ·simp[newL,List.filter_append,List.filter_cons,hok]
 ·exact⟨by simp[o5,lN,newL],by simpa [lN]using hC⟩
theorem ajR{e:aC}(hE:Ve e)(hv:Vt t)(hp:Pk e p)(hr:r∈ids t):kX e t p r=some (o6 e t 5000 [bp.mk r p] [] [] []):=by
 have hl:=hE.small
 have hnr:=hv.nr
 unfold kX
 simp only[jn,iy e (show e.List.length≤1000000 by omega),iX.2 hE,aM,mD,fK.2 hv,pH,hp.v,yl,iQ.1 hr,xP,hp.adn,decide_true,Bool.and_true,Bool.not_true,cond_false]
 refine Ok.eq (Ok.whl (λsg:List dD×Int×List bO×List aU×List cz=>match sg with|(Q,i,D,C,L)=>o6 e t 5000 ((Q.drop i.toNat).map cvV) D C L=o6 e t 5000 [bp.mk r p] [] [] []∧(∀v∈Q,Pk e v.aq)∧C.length≤2000∧Q.length≤C.length+1∧(0≤i∧i≤Q.length)∧D.length≤64*i.toNat∧L.length≤65*i.toNat) (λsg=>runM ((sg.1.drop sg.2.1.toNat).map cvV) sg.2.2.2.1) ⟨rfl,by simpa using hp,by simp,by simp,by simp,by simp,by simp⟩ (by show runM [bp.mk r p] []<_;simp[runM]) ?_)
 rintro⟨Q,i,D,C,L⟩ Z ⟨h1,h2,h3,h4,⟨i0,i1⟩,h6,h7⟩ hZ
 dsimp only
 by_cases hi:i<(Q.length:Int)
 ·rw[decide_eq_true hi,cond_true]
  obtain⟨v,hv1,hvm,hv2⟩:=(jM i0 hi)
  rw[hv1,aM]
  have hpv:=h2 v hvm
  have anC:Q.drop i.toNat=v::Q.drop (i.toNat+1):=by
   obtain⟨hlt,he⟩:=List.getElem?_eq_some_iff.1 hv2
   rw[List.drop_eq_getElem_cons hlt,he]
  have hfw:rR e v.aK v.aq=(gf e v.aK v.aq,0):=by
   unfold rR;rw[if_pos (iX.2 hE),hpv.v,hpv.adn];rfl
  rw[uV e _ _ (by omega),aM,hfw,acw hE,aM]
  have hD:(iH e v.aK v.aq).length≤64:=by unfold iH;rw[List.length_map];exact Nat.le_trans (List.length_filter_le _ _) hl
  have hS:(cH e v.aK v.aq).length≤64:=Nat.le_trans (List.length_filter_le _ _) hl
  have hLn:(newL t v.aK (cH e v.aK v.aq)).length≤64:=by unfold newL;rw[List.length_map];exact Nat.le_trans (List.length_filter_le _ _) hS
  have hlo:(uq e v.aK v.aq).length≤1:=by unfold uq;split<;>simp
  rw[ni (by omega),aM]
  have aiz:∀(J:List cz→Option (cC×Int)),(bif !decide ((gf e v.aK v.aq).jF=(0:Int))then bnd (dB L ([(cz.mk v.aK (gf e v.aK v.aq).jF)]:List cz)) λ(l_2:List cz)=>J l_2 else J L)=J (L++uq e v.aK v.aq):=λJ=>by
   unfold uq
   by_cases hz:(gf e v.aK v.aq).jF=0
   ·rw[decide_eq_true hz,if_pos hz];simp
   ·rw[decide_eq_false hz,if_neg hz]
    simp only[Bool.not_false,cond_true]
    rw[ki (by omega),aM]
  simp only[jn]
  refine Eq.subst (motive:=λz=>Ok z _) (aiz _).symm ?_
  refine Eq.subst (motive:=λz=>Ok z _) (ae7 (e:=e) (t:=t) hE hv (r:=v.aK) (p:=v.aq) (q:=Q) (C:=C) (L:=L++uq e v.aK v.aq) (by omega) h3 (by rw[List.length_append];omega)).symm ?_
  have agx:o6 e t 5000 (cvV v::(Q.drop (i.toNat+1)).map cvV) D C L=if 2000<(C++oG e t (cvV v)).length then(cC.mk [] [] [],11)else o6 e t 4999 ((Q.drop (i.toNat+1)).map cvV++uP e t (cvV v)) (D++iH e v.aK v.aq) (C++oG e t (cvV v)) (L++aaF e t (cvV v)):=rfl
  rw[anC,List.map_cons]at h1
  show Ok (if 2000<(C++oG e t (cvV v)).length then _ else _) _
  by_cases hb:2000<(C++oG e t (cvV v)).length
  ·rw[if_pos hb]
   refine⟨_,rfl,?_⟩
   rw[←h1,agx,if_pos hb]
  ·rw[if_neg hb]
   have hless:=acv (e:=e) (t:=t) (q:=(Q.drop (i.toNat+1)).map cvV) hb
   have hq2:=ahu (t:=t) (r:=v.aK) (b:=ep e v.aK v.aq) (p:=goP e v.aK v.aq) (cH e v.aK v.aq)
   have hm5:runM (cvV v::(Q.drop (i.toNat+1)).map cvV) C≤4002:=by
    unfold runM
    rw[List.length_cons,List.length_map,List.length_drop];omega
   have aiA:o6 e t 4999 ((Q.drop (i.toNat+1)).map cvV++uP e t (cvV v)) (D++iH e v.aK v.aq) (C++oG e t (cvV v)) (L++aaF e t (cvV v))=o6 e t 5000 ((Q.drop (i.toNat+1)).map cvV++uP e t (cvV v)) (D++iH e v.aK v.aq) (C++oG e t (cvV v)) (L++aaF e t (cvV v)):=
    abE _ _ _ _ _ _ (by omega) (by omega)
   have ei:w64 (i+1)=i+1:=iA (by omega) (by omega)
   have ein:(i+1).toNat=i.toNat+1:=by omega
   have anD:((Q++(o5 t v.aK (goP e v.aK v.aq) (cH e v.aK v.aq)).map cvA).drop (i.toNat+1)).map cvV=(Q.drop (i.toNat+1)).map cvV++uP e t (cvV v):=by
    rw[List.drop_append_of_le_length (by omega),List.map_append,List.map_map]
    congr 1
    exact List.map_id' _
   rw[ei]
   refine hZ _ ⟨?_,λu hu=>?_,(show(C++oG e t (cvV v)).length≤2000 by omega),?_,⟨by omega,?_⟩,?_,?_⟩ ?_
   ·rw[ein,anD,←h1,agx,if_neg hb,aiA,List.append_assoc];rfl
   ·rcases List.mem_append.1 hu with hu|hu
    ·exact h2 u hu
    ·obtain⟨w,hw,rfl⟩:=List.mem_map.1 hu
     obtain⟨a,ha,rfl⟩:=List.mem_map.1 hw
     obtain⟨_,_,_,_,s5,s6⟩:=nH (List.mem_filter.1 ha).1
     have ht:=(o4.1 hpv.v).2.2.2.2.1
     exact hpv.go hE v.aK s6 (by omega)
   ·show(Q++(o5 t v.aK (goP e v.aK v.aq) (cH e v.aK v.aq)).map cvA).length≤(C++lN t v.aK (ep e v.aK v.aq) (cH e v.aK v.aq)).length+1
    rw[List.length_append,List.length_append,List.length_map];omega
   ·show i+1≤((Q++(o5 t v.aK (goP e v.aK v.aq) (cH e v.aK v.aq)).map cvA).length:Int)
    rw[List.length_append];omega
   ·rw[ein,List.length_append];omega
   ·rw[ein]
    show(L++uq e v.aK v.aq++newL t v.aK (cH e v.aK v.aq)).length≤65*(i.toNat+1)
    rw[List.length_append,List.length_append];omega
   ·show runM (((Q++(o5 t v.aK (goP e v.aK v.aq) (cH e v.aK v.aq)).map cvA).drop (i+1).toNat).map cvV) (C++oG e t (cvV v))<runM ((Q.drop i.toNat).map cvV) C
    rw[ein,anD,anC,List.map_cons];exact hless
 ·rw[decide_eq_false hi,cond_false]
  have:Q.drop i.toNat=[]:=List.drop_of_length_le (by omega)
  rw[this]at h1
  exact⟨_,rfl,h1⟩
noncomputable def xR(e:aC)(t:aa)(p:aH)(r:Int):cC×Int:=
 if l8 e=0∧eU t=0∧l9 p=true then(if r∈ids t then(if lW e p=0 then o6 e t 5000 [bp.mk r p] [] [] []else(cC.mk [] [] [],lW e p))else(cC.mk [] [] [],4))else(cC.mk [] [] [],1)
theorem aiB{e:aC}(hp:l9 p=true)(hs:lW e p=0):Pk e p:=by
 unfold lW at hs
 by_cases h1:p.Mode=2
 ·by_cases h2:p.Length=e.Length
  ·exact⟨hp,h1,h2⟩
  ·rw[if_pos h1,if_neg h2]at hs;cases hs
 ·rw[if_neg h1]at hs;cases hs
theorem ae8(e:aC)(t:aa)(p:aH)(r:Int)(hl:e.List.length≤1000)(hr:t.aj.length≤1000):kX e t p r=some (xR e t p r):=by
 by_cases h:l8 e=0∧eU t=0∧l9 p=true
 ·obtain⟨h1,h2,h3⟩:=h
  by_cases hid:r∈ids t
  ·by_cases hs:lW e p=0
   ·rw[ajR (iX.1 h1) (fK.1 h2) (aiB h3 hs) hid]
    unfold xR;rw[if_pos ⟨h1,h2,h3⟩,if_pos hid,if_pos hs]
   ·unfold kX xR
    simp only[jn,iy e (show e.List.length≤1000000 by omega),h1,aM,mD,h2,pH,h3,yl,iQ.1 hid,xP,decide_true,Bool.and_true,Bool.not_true,cond_false,decide_eq_false hs,Bool.not_false,cond_true,and_self,if_true,if_pos hid,if_neg hs]
  ·have hh:hasB t r=false:=by cases hb:hasB t r;rfl;exact absurd (iQ.2 hb) hid
   unfold kX xR
   simp only[jn,iy e (show e.List.length≤1000000 by omega),h1,aM,mD,h2,pH,h3,yl,hh,decide_true,Bool.and_false,Bool.not_true,cond_false,Bool.not_false,cond_true,and_self,if_true,if_neg hid]
 ·unfold xR kX
  rw[if_neg h]
  simp only[jn,iy e (show e.List.length≤1000000 by omega),aM,mD,pH]
  by_cases h1:l8 e=0
  ·by_cases h2:eU t=0
   ·have h3:l9 p=false:=by cases hp:l9 p;rfl;exact absurd ⟨h1,h2,hp⟩ h
    simp[h1,h2,h3]
   ·simp[h1,h2]
  ·simp[h1]
theorem aaH{α β:Type}{a:List α}{q:α→α→Bool}(hq:∀x,q x x=true)(n:Option β){B:Int→α→(Unit→Option β)→Unit→Option β}{K:Unit→Option β}
  (hB:∀j x Z,B j x Z ()=bnd (elO a j) λe=>bif !q x e then n else Z ()):bD a 0 B K ()=K ():=
 jQ (L:=a) (λ_ _=>True) (λ_ _=>K ()) (λs _=>rfl) (λp x r s Z h _ hZ=>by
  rw[hB,←h,ajo,aM,hq];exact hZ () trivial) a [] () rfl trivial
theorem adq(x:cC):jW x x=some true:=by
 unfold jW
 simp only[decide_true,Bool.not_true,Bool.or_false,cond_false]
 refine(aaH (a:=x.cK) (q:=qY) (λd=>by simp[qY]) (some false) (by intros;rfl)).trans ?_
 refine(aaH (a:=x.cn) (q:=qZ) (λd=>by simp[qZ]) (some false) (by intros;rfl)).trans ?_
 exact aaH (a:=x.dP) (q:=xZ) (λd=>by simp[xZ]) (some false) (by intros;rfl)
end Go.Proofs.YtdjeacigeegklaaGreat
