/- Plain: the full ab3, and the acJ bx the later z7 tape makes. No condition but bU bx stand in each. -/
import Derived.Test.YtdjeacigeegklaaGreatPYF
namespace Go.Proofs.YtdjeacigeegklaaGreat
set_option linter.all false
open Go
def pH(t:af)(r:Int):List (Int×Int×Int):=(r,3,r)::(nj t r).map λq=>(r,1,q)
def jA(t:af):List (Int×Int×Int):=(ids t).flatMap (pH t)
def kY:Nat→List (Int×Int×Int)→List ak
 |_,[]=>[]
 |n,(r,k,q)::l=>ak.mk (n:Int) r k q::kY (n+1) l
theorem vl:∀(n:Nat) (l:List (Int×Int×Int)),(kY n l).length=l.length
 |_,[]=>rfl
 |n,(r,k,q)::l=>by simp only[kY,List.length_cons,vl (n+1) l]
theorem aeE:∀(n:Nat) (a b:List (Int×Int×Int)),kY n (a++b)=kY n a++kY (n+a.length) b
 |n,[],b=>by simp[kY]
 |n,(r,k,q)::l,b=>by
  simp only[List.cons_append,kY,aeE (n+1) l b,List.length_cons]
  rw[show n+1+l.length=n+(l.length+1)by omega]
theorem vm:∀(n:Nat) (l:List (Int×Int×Int)) (i:Nat) (a:ak),(kY n l)[i]?=some a→a.Bit=((n+i:Nat):Int)∧l[i]?=some (a.aN,a.Kind,a.To)
 |n,[],i,a,h=>by simp[kY]at h
 |n,(r,k,q)::l,0,a,h=>by simp[kY]at h;subst h;simp
 |n,(r,k,q)::l,i+1,a,h=>by
  simp only[kY,List.getElem?_cons_succ]at h
  obtain⟨h1,h2⟩:=vm (n+1) l i a h
  exact⟨by rw[h1];omega,by simpa using h2⟩
theorem amb{n:Nat}{l:List (Int×Int×Int)}{a:ak}(h:a∈kY n l):(a.aN,a.Kind,a.To)∈l∧(n:Int)≤a.Bit∧a.Bit<n+l.length:=by
 obtain⟨i,hi⟩:=List.getElem?_of_mem h
 obtain⟨h1,h2⟩:=vm _ _ _ _ hi
 have:=(List.getElem?_eq_some_iff.1 h2).1
 exact⟨List.mem_of_getElem? h2,by omega,by omega⟩
variable {t:af}
theorem ah5(hv:Vt t)(r:Int):(nj t r).Perm (t.Links.filterMap (gA r)):=
 (List.perm_ext_iff_of_nodup ((aa8 hv r).imp λh=>by omega) (wo hv r)).2 λx=>by rw[rG hv,ahP hv]
theorem arV(hv:Vt t):((ids t).map λr=>(nj t r).length).sum=2*t.Links.length:=by
 have e:((ids t).map λr=>(nj t r).length)=(ids t).map λr=>(t.Links.filterMap (gA r)).length:=List.map_congr_left λr _=>(ah5 hv r).length_eq
 rw[e]
 have hnd:(ids t).Nodup:=(zf hv).imp λh=>by omega
 have key:∀L:List bt,(∀l∈L,l.A∈ids t∧l.B∈ids t∧l.A<l.B)→((ids t).map λr=>(L.filterMap (gA r)).length).sum=2*L.length:=by
  intro L
  induction L with
  |nil=>intro _;simp;induction (ids t)<;>simp_all
  |cons l L ih=>
   intro h
   have ih:=ih λx hx=>h x (by simp[hx])
   obtain⟨hA,hB,hlt⟩:=h l (by simp)
   have e2:∀r,((l::L).filterMap (gA r)).length=(if r=l.A then 1 else 0)+(if r=l.B then 1 else 0)+(L.filterMap (gA r)).length:=λr=>by
    unfold gA
    by_cases h1:r=l.A
    ·subst h1
     have:¬l.A=l.B:=by omega
     rw[List.filterMap_cons_some (b:=l.B) (by simp)]
     simp[this];omega
    ·by_cases h2:r=l.B
     ·subst h2
      rw[List.filterMap_cons_some (b:=l.A) (by simp[h1])]
      simp[h1];omega
     ·rw[List.filterMap_cons_none (by simp[h1,h2])]
      simp[h1,h2]
   simp only[e2]
   have cnt:∀(I:List Int) (x:Int),I.Nodup→x∈I→(I.map λr=>if r=x then 1 else 0).sum=1:=by
    intro I x
    induction I with
    |nil=>intro _ h;cases h
    |cons a I ih2=>
     intro hn hx
     rw[List.nodup_cons]at hn
     simp only[List.map_cons,List.sum_cons]
     by_cases e3:a=x
     ·subst e3
      have:(I.map λr=>if r=a then 1 else 0).sum=0:=by
       have h0:∀J:List Int,a∉J→(J.map λr=>if r=a then 1 else 0).sum=0:=by
        intro J
        induction J with
        |nil=>intro _;rfl
        |cons b J ih4=>
         intro hb
         simp only[List.mem_cons,not_or]at hb
         simp only[List.map_cons,List.sum_cons,ih4 hb.2,if_neg (Ne.symm hb.1)]
       exact h0 I hn.1
      rw[if_pos rfl,this]
     ·rcases List.mem_cons.1 hx with rfl|hx
      ·exact absurd rfl e3
      ·rw[if_neg e3,ih2 hn.2 hx]
   have sum3:∀(I:List Int) (f g k:Int→Nat),(I.map λr=>f r+g r+k r).sum=(I.map f).sum+(I.map g).sum+(I.map k).sum:=by
    intro I f g k
    induction I with
    |nil=>rfl
    |cons a I ih3=>simp only[List.map_cons,List.sum_cons,ih3];omega
   rw[sum3 (ids t) (λr=>if r=l.A then 1 else 0) (λr=>if r=l.B then 1 else 0) (λr=>(L.filterMap (gA r)).length),cnt _ _ hnd hA,cnt _ _ hnd hB,ih,List.length_cons]
   omega
 exact key t.Links λl hl=>⟨jU.2 (hv.ends l hl).1,jU.2 (hv.ends l hl).2,hv.lt l hl⟩
theorem amc(hv:Vt t):(jA t).length=t.aq.length+2*t.Links.length:=by
 rw[←arV hv,jA,List.length_flatMap]
 have:∀I:List Int,(I.map λr=>(pH t r).length).sum=I.length+(I.map λr=>(nj t r).length).sum:=by
  intro I
  induction I with
  |nil=>rfl
  |cons a I ih=>
   have hr:(pH t a).length=1+(nj t a).length:=by simp[pH];omega
   simp only[List.map_cons,List.sum_cons,ih,List.length_cons,hr];omega
 rw[this,show(ids t).length=t.aq.length by simp[ids]]
def xW(t:af)(n:Int):aG×Int:=
 if gJ t=0 then bif !kX n then(aG.mk 0 [],2)else if n<((jA t).length:Int)then(aG.mk 0 [],3)else(aG.mk n (kY 0 (jA t)),0)else(aG.mk 0 [],1)
theorem agL(hv:Vt t):(jA t).length≤144:=by
 rw[amc hv];have:=hv.nr;have:=hv.nl;omega
theorem aeF{α:Type}{β:Type}(f:α→Int×Int×Int){B:Int→α→(List ak→Option β)→List ak→Option β}{K:List ak→Option β}
  (hB:∀j x Z (s:List ak),s.length<1000→B j x Z s=Z (s++[ak.mk (s.length:Int) (f x).1 (f x).2.1 (f x).2.2])):∀(l:List α) (j:Nat) (s:List ak),s.length+l.length≤1000→bF l j B K s=K (s++kY s.length (l.map f))
 |[],_,s,_=>by simp[bF,kY]
 |x::r,j,s,h=>by
  simp only[List.length_cons]at h
  simp only[bF]
  rw[hB _ _ _ _ (by omega),aeF f hB r (j+1) _ (by simp;omega)]
  simp only[List.length_append,List.length_singleton,List.map_cons,kY,List.append_assoc,List.singleton_append]
theorem ah6{α:Type}{β:Type}(f:α→List (Int×Int×Int)){L:List α}{B:Int→α→(List ak→Option β)→List ak→Option β}{K:List ak→Option β}(hL:(L.flatMap f).length≤900)
  (hB:∀j x Z (s:List ak),x∈L→s.length+(f x).length≤900→B j x Z s=Z (s++kY s.length (f x))):bF L 0 B K []=K (kY 0 (L.flatMap f)):=by
 refine(jX (L:=L) (λp s=>s=kY 0 (p.flatMap f)) (λp l=>K (kY 0 (L.flatMap f))) (λs hs=>by rw[hs]) (λp x r s Z h hi hZ=>?_) L [] [] rfl rfl)
 subst hi
 have hlen:(kY 0 (p.flatMap f)).length+(f x).length≤900:=by
  rw[vl]
  have:(L.flatMap f).length=(p.flatMap f).length+((f x).length+(r.flatMap f).length):=by rw[←h];simp
  omega
 rw[hB _ _ _ _ (by rw[←h];simp) hlen]
 refine hZ _ ?_
 rw[List.flatMap_append,aeE,vl]
 simp
theorem agM(t:af)(n:Int):nC t n=some (xW t n):=by
 unfold nC xW lJ
 simp only[nT,aV]
 by_cases hc:gJ t=0
 ·have hv:=lW.1 hc
  have hk:=agL hv
  simp only[hc,decide_true,Bool.not_true,cond_false,if_true]
  show(bif !kX n then _ else _)=_
  cases kX n
  ·rfl
  simp only[Bool.not_true,cond_false]
  have e:jA t=t.aq.flatMap λr=>pH t r.ID:=by unfold jA ids;rw[List.flatMap_map]
  refine(ah6 (λr:aY=>pH t r.ID) (by rw[←e];omega) (λj x Z s hx hs=>?_)).trans ?_
  ·simp only[pH,List.length_cons,List.length_map]at hs
   rw[mY (by omega),aV,acC,aV,if_pos hc]
   refine(aeF (λq:Int=>(x.ID,(1:Int),q)) (λj q Z s hs=>by rw[mY (by omega),aV]) _ _ _ (by simp;omega)).trans ?_
   simp only[List.append_assoc,pH,kY,List.length_append,List.length_singleton,List.singleton_append]
  ·rw[←e,vl]
   by_cases hn:n<((jA t).length:Int)
   ·simp[hn]
   ·simp[hn]
 ·simp[hc]
structure agN(t:af)(a:ak):Prop where
 r:a.aN∈ids t
 q:a.To∈ids t
 k:(a.Kind=3∧a.To=a.aN)∨(a.Kind=1∧kW t a.aN a.To=true)∨(a.Kind=2∧a.To≠a.aN)
structure EL(t:af)(n:Nat)(m:List ak):Prop where
 bit:∀i a,m[i]?=some a→a.Bit=((n+i:Nat):Int)
 ok:∀a∈m,agN t a
 dup:m.Pairwise λa b=>tgA a≠tgA b
theorem EL.nil(t:af)(n:Nat):EL t n []:=⟨by simp,by simp,by simp⟩
variable {m:List ak}
theorem EL.add(h:EL t 0 m){x:ak}(hb:x.Bit=m.length)(hx:agN t x)(hd:∀a∈m,tgA a≠tgA x):EL t 0 (m++[x]):=by
 refine⟨λi a hi=>?_,λa ha=>?_,List.pairwise_append.2 ⟨h.dup,by simp,λa ha b hb=>?_⟩⟩
 ·rw[List.getElem?_append]at hi
  split at hi
  ·exact h.bit i a hi
  ·rename_i hlt
   have e:i=m.length:=by
    have:=(List.getElem?_eq_some_iff.1 hi).1;simp at this;omega
   subst e;simp at hi;subst hi;rw[hb];simp
 ·rcases List.mem_append.1 ha with ha|ha
  ·exact h.ok a ha
  ·simp at ha;subst ha;exact hx
 ·simp at hb;subst hb;exact hd a ha
theorem EL.take{t:af}{n k:Nat}{m:List ak}(h:EL t n m):EL t n (m.take k):=
 ⟨λi a hi=>h.bit i a (by rw[List.getElem?_take]at hi;split at hi;exact hi;cases hi),λa ha=>h.ok a (List.mem_of_mem_take ha),h.dup.sublist (List.take_sublist k m)⟩
structure Ef(t:af)(e:aG):Prop where
 v:Ve e
 ok:∀a∈e.List,agN t a
theorem EL.ef{n:Nat}{len:Int}(hv:Vt t)(h:EL t n m)(hl:len=8∨len=16∨len=32∨len=64)(hm:(n:Int)+m.length≤len):Ef t (aG.mk len m):=by
 have asc:m.Pairwise λa b=>a.Bit<b.Bit:=List.pairwise_iff_getElem.2 λi j hi hj hij=>by
  have h1:=h.bit i _ (List.getElem?_eq_getElem hi);have h2:=h.bit j _ (List.getElem?_eq_getElem hj)
  omega
 refine⟨⟨hl,λa ha=>?_,λa ha=>?_,λa ha=>?_,asc,h.dup⟩,h.ok⟩
 ·obtain⟨i,hi⟩:=List.getElem?_of_mem ha
  have hb:=h.bit i a hi
  have hlt:i<m.length:=(List.getElem?_eq_some_iff.1 hi).1
  exact⟨by omega,by simp only;omega,xV hv (h.ok a ha).r,xV hv (h.ok a ha).q⟩
 ·have:=(h.ok a ha).k;omega
 ·rcases(h.ok a ha).k with⟨h1,h2⟩|⟨h1,h2⟩|⟨h1,h2⟩
  ·simp[h1,h2]
  ·have:=awa hv h2
   simp[h1,Ne.symm this]
  ·simp[h1,h2]
theorem amd(hv:Vt t){r k q:Int}:(r,k,q)∈jA t↔r∈ids t∧((k=3∧q=r)∨(k=1∧kW t r q=true)):=by
 unfold jA pH
 simp only[List.mem_flatMap,List.mem_cons,List.mem_map,Prod.mk.injEq,rG hv]
 constructor
 ·rintro⟨a,ha,⟨rfl,rfl,rfl⟩|⟨b,hb,rfl,rfl,rfl⟩⟩
  ·exact⟨ha,.inl ⟨rfl,rfl⟩⟩
  ·exact⟨ha,.inr ⟨rfl,hb⟩⟩
 ·rintro⟨ha,⟨rfl,rfl⟩|⟨rfl,hb⟩⟩
  ·exact⟨q,ha,.inl ⟨rfl,rfl,rfl⟩⟩
  ·exact⟨r,ha,.inr ⟨q,hb,rfl,rfl,rfl⟩⟩
theorem agO(hv:Vt t):(jA t).Nodup:=by
 unfold jA
 refine List.pairwise_flatMap.2 ⟨λr _=>?_,?_⟩
 ·show(pH t r).Nodup
  unfold pH
  rw[List.nodup_cons]
  refine⟨λh=>?_,?_⟩
  ·obtain⟨x,_,hx⟩:=List.mem_map.1 h;cases hx
  ·exact List.Pairwise.map _ (λa b (hab:a<b) he=>by simp at he;omega) (aa8 hv r)
 ·refine(zf hv).imp λ{a b} hab=>?_
  intro x hx y hy hxy
  subst hxy
  have e1:x.1=a:=by
   rcases List.mem_cons.1 hx with rfl|hx
   ·rfl
   ·obtain⟨_,_,rfl⟩:=List.mem_map.1 hx;rfl
  have e2:x.1=b:=by
   rcases List.mem_cons.1 hy with rfl|hy
   ·rfl
   ·obtain⟨_,_,rfl⟩:=List.mem_map.1 hy;rfl
  omega
theorem arW(hv:Vt t):EL t 0 (kY 0 (jA t)):=by
 refine⟨λi a hi=>(vm _ _ _ _ hi).1,λa ha=>?_,?_⟩
 ·obtain⟨h1,h2⟩:=(amd hv).1 (amb ha).1
  rcases h2 with⟨h2,h3⟩|⟨h2,h3⟩
  ·exact⟨h1,by rw[h3];exact h1,.inl ⟨h2,h3⟩⟩
  ·exact⟨h1,pP hv h3,.inr (.inl ⟨h2,h3⟩)⟩
 ·refine List.pairwise_iff_getElem.2 λi j hi hj hij he=>?_
  have h1:=(vm _ _ _ _ (List.getElem?_eq_getElem hi)).2;have h2:=(vm _ _ _ _ (List.getElem?_eq_getElem hj)).2
  simp only[tgA,aS.mk.injEq]at he
  obtain⟨q1,e1⟩:=List.getElem?_eq_some_iff.1 h1
  obtain⟨q2,e2⟩:=List.getElem?_eq_some_iff.1 h2
  have:=List.pairwise_iff_getElem.1 (agO hv) i j q1 q2 hij
  exact this (by rw[e1,e2,he.1,he.2.1,he.2.2])
end Go.Proofs.YtdjeacigeegklaaGreat
