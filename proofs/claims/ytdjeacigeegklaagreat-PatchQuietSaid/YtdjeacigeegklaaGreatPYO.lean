/- Plain: what a run in aiw mode comes to. No condition but bK bn stand in each. -/
import Derived.Test.YtdjeacigeegklaaGreatPYN
namespace Go.Proofs.YtdjeacigeegklaaGreat
set_option linter.all false
open Go
noncomputable def mz(t:aa)(r:Int)(a:ay):List Int×Bool:=if a.Kind=2 then(ga t r a.To,decide ((0:Int)<((ga t r a.To).length:Int)))else([a.To],gP t r a.To)
def oF(b:Int):Int→List Int→List aU
 |_,[]=>[]
 |r,x::l=>aU.mk r x b::oF b x l
theorem zi(b:Int):∀(r:Int) (l:List Int),(oF b r l).length=l.length
 |_,[]=>rfl
 |r,x::l=>by simp[oF,zi b x l]
def acu:Int→List Int→Int
 |r,[]=>r
 |_,x::l=>acu x l
noncomputable def okA(t:aa)(r:Int)(a:ay):Bool:=(mz t r a).2
noncomputable def lN(t:aa)(r b:Int)(l:List ay):List aU:=(l.filter (okA t r)).flatMap λa=>oF b r (mz t r a).1
noncomputable def o5(t:aa)(r:Int)(p:aH)(l:List ay):List bp:=(l.filter (okA t r)).map λa=>bp.mk (acu r (mz t r a).1) p
noncomputable def newL(t:aa)(r:Int)(l:List ay):List cz:=(l.filter λa=>!okA t r a).map λa=>cz.mk r (aaE a)
def agr(r:Int)(p:aH)(a:ay):bO:=bO.mk r (aH.mk p.Mode p.bU p.Set p.Length p.TTL p.cR p.cS p.dV (aaE a) p.cu)
def iH(e:aC)(r:Int)(p:aH):List bO:=(e.List.filter (eO r p)).map (agr r p)
def uq(e:aC)(r:Int)(p:aH):List cz:=if(gf e r p).jF=0 then[]else[cz.mk r (gf e r p).jF]
noncomputable def oG(e:aC)(t:aa)(v:bp):List aU:=lN t v.cm (ep e v.cm v.gw) (cH e v.cm v.gw)
noncomputable def uP(e:aC)(t:aa)(v:bp):List bp:=o5 t v.cm (goP e v.cm v.gw) (cH e v.cm v.gw)
noncomputable def aaF(e:aC)(t:aa)(v:bp):List cz:=uq e v.cm v.gw++newL t v.cm (cH e v.cm v.gw)
noncomputable def o6(e:aC)(t:aa):Nat→List bp→List bO→List aU→List cz→cC×Int
 |0,_,_,_,_=>(cC.mk [] [] [],11)
 |_+1,[],D,C,L=>(cC.mk D C L,0)
 |n+1,v::q,D,C,L=>if 2000<(C++oG e t v).length then(cC.mk [] [] [],11)else o6 e t n (q++uP e t v) (D++iH e v.cm v.gw) (C++oG e t v) (L++aaF e t v)
variable {a:ay}{r:Int}{t:aa}
theorem agt(h:okA t r a=true):1≤(mz t r a).1.length:=by
 unfold okA at h
 unfold mz at *
 by_cases h2:a.Kind=2
 ·rw[if_pos h2]at *;simp only[decide_eq_true_eq]at h;simp only;omega
 ·rw[if_neg h2];simp
variable {b:Int}{p:aH}
theorem ahu(l:List ay):(o5 t r p l).length≤(lN t r b l).length:=by
 unfold o5 lN
 rw[List.length_map,List.length_flatMap]
 have:∀m:List ay,(∀a∈m,okA t r a=true)→m.length≤(m.map λa=>(oF b r (mz t r a).1).length).sum:=by
  intro m
  induction m with
  |nil=>intro _;simp
  |cons a m ih=>
   intro h
   have h1:=ih λx hx=>h x (by simp[hx])
   have h2:=agt (h a (by simp))
   simp only[List.length_cons,List.map_cons,List.sum_cons,zi]
   simp only[zi]at h1
   omega
 exact this _ λa ha=>(List.mem_filter.1 ha).2
def runM(q:List bp)(C:List aU):Nat:=q.length+(2000-C.length)
theorem acv{e:aC}{v:bp}{q:List bp}{C:List aU}(h:¬2000<(C++oG e t v).length):runM (q++uP e t v) (C++oG e t v)<runM (v::q) C:=by
 have:=ahu (t:=t) (r:=v.cm) (b:=ep e v.cm v.gw) (p:=goP e v.cm v.gw) (cH e v.cm v.gw)
 unfold runM uP
 unfold oG at h ⊢
 rw[List.length_append]at h ⊢
 rw[List.length_append,List.length_cons]
 omega
theorem abE{e:aC}{t:aa}:∀(n m:Nat) (q:List bp) (D:List bO) (C:List aU) (L:List cz),runM q C<n→runM q C<m→o6 e t n q D C L=o6 e t m q D C L
 |0,_,_,_,_,_,h,_=>by omega
 |_,0,_,_,_,_,_,h=>by omega
 |n+1,m+1,[],D,C,L,_,_=>rfl
 |n+1,m+1,v::q,D,C,L,h1,h2=>by
  rw[o6,o6]
  split
  ·rfl
  ·rename_i hc
   have:=acv (e:=e) (t:=t) (q:=q) hc
   exact abE n m _ _ _ _ (by omega) (by omega)
theorem ajN{e:aC}(hE:Ve e)(i:Nat):tbi (gf e r p).Local i=true↔∃a∈e.List,eO r p a=true∧a.Bit=i:=by
 have key:∀(l:List ay) (acc:Int),(∀a∈l,0≤a.Bit∧a.Bit<64)→(tbi (l.foldl orA acc) i=true↔tbi acc i=true∨∃a∈l,a.Bit=i):=by
  intro l
  induction l with
  |nil=>intro acc _;simp
  |cons a l ih=>
   intro acc h
   have hb:=h a (by simp)
   rw[List.foldl_cons,ih _ λx hx=>h x (by simp[hx])]
   unfold orA aaE
   rw[tbo,sD a.Bit.toNat i (by omega),Bool.or_eq_true,decide_eq_true_eq]
   constructor
   ·rintro((h|h)|⟨x,hx,h⟩)
    ·exact .inl h
    ·exact .inr ⟨a,by simp,by omega⟩
    ·exact .inr ⟨x,by simp[hx],h⟩
   ·rintro(h|⟨x,hx,h⟩)
    ·exact .inl (.inl h)
    ·rcases List.mem_cons.1 hx with rfl|hx
     ·exact .inl (.inr (by omega))
     ·exact .inr ⟨x,hx,h⟩
 show tbi ((e.List.filter (eO r p)).foldl orA 0) i=true↔_
 rw[key _ 0 λa ha=>hE.bit (List.mem_filter.1 ha).1,oE]
 simp only[Bool.false_eq_true,false_or,List.mem_filter,and_assoc]
theorem ajO{e:aC}(hE:Ve e)(ha:a∈e.List):tbi (gf e r p).Local a.Bit.toNat=eO r p a:=by
 have hb:=hE.bit ha
 rw[Bool.eq_iff_iff,ajN hE]
 constructor
 ·rintro⟨b,hb2,h1,h2⟩
  have:=hE.abe hb2 ha (by omega)
  subst this;exact h1
 ·intro h;exact⟨a,ha,h,by omega⟩
theorem agT(hp:l9 p=true)(h0:0≤b)(h1:b<64)(hb:tbi p.Bits b.toNat=true):nc p b=some (aH.mk p.Mode p.bU p.Set p.Length p.TTL p.cR p.cS p.dV (uN b.toNat) p.cu):=by
 unfold nc
 have e1:¬b<0:=by omega
 have e2:¬63<b:=by omega
 simp only[jn,mU,hp,aM,Bool.not_true,cond_false,decide_eq_false e1,decide_eq_false e2,decide_eq_true h0,chk,cond_true,air p.Bits h0 h1,hb,if_true,wD h0 h1]
 rfl
theorem aec{e:aC}(h:eO r p a=true):a.aK=r∧tbi p.Bits a.Bit.toNat=true∧a.Kind=3:=by
 simp only[eO,kj,Bool.and_eq_true,decide_eq_true_eq]at h
 exact⟨h.1.1,h.1.2,h.2⟩
theorem ama{β:Type}{e:aC}(hE:Ve e)(hp:l9 p=true){D:List bO}(hD:D.length≤900000){K:List bO→Option β}:
  bD e.List 0 (λ(j2:Int) (e2:ay) (Z2:(List bO)→Option β) (m_4:(List bO))=>jn (λ(m_5:(List bO))=>Z2 m_5) λJ2=>chk (decide (0≤e2.Bit))<|bif decide (aS .and .u64 (Int.fdiv (gf e r p).Local (2 ^ min e2.Bit.toNat 64)) (1:Int)=(1:Int))then bnd (nc p e2.Bit) λ(bN:aH)=>bnd (dB m_4 ([(bO.mk r bN)]:List bO)) λ(l_1:List bO)=>J2 l_1 else J2 m_4) K D=K (D++iH e r p):=by
 have hl:=hE.small
 refine jQ (L:=e.List) (λq m=>m=D++(q.filter (eO r p)).map (agr r p)) (λq l=>K (D++iH e r p)) (λs hs=>by rw[hs];rfl) (λq x rest s Z h hi hZ=>?_) e.List [] D rfl (by simp)
 subst hi
 have hx:x∈e.List:=by rw[←h];simp
 obtain⟨b0,b1⟩:=hE.bit hx
 have hql:q.length≤64:=by
  have:e.List.length=q.length+(rest.length+1):=by rw[←h];simp
  omega
 have hfl:(q.filter (eO r p)).length≤64:=Nat.le_trans (List.length_filter_le _ _) hql
 simp only[jn]
 rw[decide_eq_true b0,air _ b0 b1,ajO hE hx]
 simp only[chk,cond_true]
 cases hc:eO r p x
 ·simp only[Bool.false_eq_true,if_false]
  refine hZ _ ?_
  simp[List.filter_append,List.filter_cons,hc]
 ·obtain⟨_,h2,_⟩:=aec (e:=e) hc
  simp only[if_true,decide_true,cond_true]
  rw[agT hp b0 b1 h2,aM,ki (by simp;omega),aM]
  refine hZ _ ?_
  simp[List.filter_append,List.filter_cons,hc,agr,aaE]
theorem agu{β:Type}{b:Int}{K:Int×List aU→Option β}:∀(l:List Int) (j:Nat) (r:Int) (C:List aU),C.length+l.length≤900000→bD l j (λ(j4:Int) (e4:Int) (Z4:(Int×(List aU))→Option β) (sg:Int×(List aU))=>match sg with|(gn,mw)=>bnd (dB mw ([(aU.mk gn e4 b)]:List aU)) λ(l_4:List aU)=>Z4 (e4,l_4)) K (r,C)=K (acu r l,C++oF b r l)
 |[],_,r,C,_=>by simp[bD,acu,oF]
 |x::l,j,r,C,h=>by
  simp only[List.length_cons]at h
  simp only[bD]
  rw[ki (by omega),aM,agu l (j+1) x _ (by simp;omega)]
  simp[acu,oF]
theorem agv(l:List ay)(x:ay):lN t r b (l++[x])=lN t r b l++if okA t r x then oF b r (mz t r x).1 else[]:=by
 unfold lN
 rw[List.filter_append,List.flatMap_append]
 cases h:okA t r x<;>simp[List.filter_cons,h]
theorem amb(p q:List ay):(lN t r b p).length≤(lN t r b (p++q)).length:=by
 unfold lN
 rw[List.filter_append,List.flatMap_append,List.length_append];omega
theorem aed(f:Int→List Int)(b:Int):∀(n:Nat) (x:Int) (out:List Int),(rtF f b n x out).length≤out.length+n
 |0,_,_=>by simp[rtF]
 |n+1,x,out=>by
  rw[rtF]
  split
  ·omega
  ·split
   ·simp
   ·rename_i y _ _
    have:=aed f b n y (out++[y])
    simp at this;omega
theorem aqR:(mz t r a).1.length≤30:=by
 unfold mz
 by_cases h:a.Kind=2
 ·rw[if_pos h]
  have:=aed (fZ t a.To) a.To 30 r []
  simpa [ga]using this
 ·rw[if_neg h];simp
end Go.Proofs.YtdjeacigeegklaaGreat
