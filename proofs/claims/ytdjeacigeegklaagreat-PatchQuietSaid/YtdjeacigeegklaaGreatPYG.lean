/- Plain: the full wH, and the ad7 bn the later abd tape makes. No condition but bK bn stand in each. -/
import Derived.Test.YtdjeacigeegklaaGreatPYF
namespace Go.Proofs.YtdjeacigeegklaaGreat
set_option linter.all false
open Go
def qk(t:aa)(r:Int):List (Int×Int×Int):=(r,3,r)::(lV t r).map λq=>(r,1,q)
def gL(t:aa):List (Int×Int×Int):=(ids t).flatMap (qk t)
def jr:Nat→List (Int×Int×Int)→List ay
 |_,[]=>[]
 |n,(r,k,q)::l=>ay.mk (n:Int) r k q::jr (n+1) l
theorem rQ:∀(n:Nat) (l:List (Int×Int×Int)),(jr n l).length=l.length
 |_,[]=>rfl
 |n,(r,k,q)::l=>by simp only[jr,List.length_cons,rQ (n+1) l]
theorem agm:∀(n:Nat) (a b:List (Int×Int×Int)),jr n (a++b)=jr n a++jr (n+a.length) b
 |n,[],b=>by simp[jr]
 |n,(r,k,q)::l,b=>by
  simp only[List.cons_append,jr,agm (n+1) l b,List.length_cons]
  rw[show n+1+l.length=n+(l.length+1)by omega]
theorem wI:∀(n:Nat) (l:List (Int×Int×Int)) (i:Nat) (a:ay),(jr n l)[i]?=some a→a.Bit=((n+i:Nat):Int)∧l[i]?=some (a.aK,a.Kind,a.To)
 |n,[],i,a,h=>by simp[jr]at h
 |n,(r,k,q)::l,0,a,h=>by simp[jr]at h;subst h;simp
 |n,(r,k,q)::l,i+1,a,h=>by
  simp only[jr,List.getElem?_cons_succ]at h
  obtain⟨h1,h2⟩:=wI (n+1) l i a h
  exact⟨by rw[h1];omega,by simpa using h2⟩
theorem ahs:∀(n:Nat) (l:List (Int×Int×Int)) (i:Nat) (r k q:Int),l[i]?=some (r,k,q)→(jr n l)[i]?=some (ay.mk ((n+i:Nat):Int) r k q)
 |n,[],i,r,k,q,h=>by simp at h
 |n,(r',k',q')::l,0,r,k,q,h=>by simp at h;obtain⟨rfl,rfl,rfl⟩:=h;simp[jr]
 |n,(r',k',q')::l,i+1,r,k,q,h=>by
  simp only[jr,List.getElem?_cons_succ]at h ⊢
  rw[ahs (n+1) l i r k q h]
  congr 2;omega
theorem agn{n:Nat}{l:List (Int×Int×Int)}{a:ay}(h:a∈jr n l):(a.aK,a.Kind,a.To)∈l∧(n:Int)≤a.Bit∧a.Bit<n+l.length:=by
 obtain⟨i,hi⟩:=List.getElem?_of_mem h
 obtain⟨h1,h2⟩:=wI _ _ _ _ hi
 have:=(List.getElem?_eq_some_iff.1 h2).1
 exact⟨List.mem_of_getElem? h2,by omega,by omega⟩
variable {t:aa}
theorem ajJ(hv:Vt t)(r:Int):(lV t r).Perm (t.Links.filterMap (jP r)):=
 (List.perm_ext_iff_of_nodup ((y5 hv r).imp λh=>by omega) (xI hv r)).2 λx=>by rw[mF hv,aeJ hv]
theorem aqO(hv:Vt t):((ids t).map λr=>(lV t r).length).sum=2*t.Links.length:=by
 have e:((ids t).map λr=>(lV t r).length)=(ids t).map λr=>(t.Links.filterMap (jP r)).length:=List.map_congr_left λr _=>(ajJ hv r).length_eq
 rw[e]
 have hnd:(ids t).Nodup:=(yo hv).imp λh=>by omega
 have key:∀L:List aW,(∀l∈L,l.A∈ids t∧l.B∈ids t∧l.A<l.B)→((ids t).map λr=>(L.filterMap (jP r)).length).sum=2*L.length:=by
  intro L
  induction L with
  |nil=>intro _;simp;induction (ids t)<;>simp_all
  |cons l L ih=>
   intro h
   have ih:=ih λx hx=>h x (by simp[hx])
   obtain⟨hA,hB,hlt⟩:=h l (by simp)
   have e2:∀r,((l::L).filterMap (jP r)).length=(if r=l.A then 1 else 0)+(if r=l.B then 1 else 0)+(L.filterMap (jP r)).length:=λr=>by
    unfold jP
    by_cases h1:r=l.A
    ·subst h1
     have:¬l.A=l.B:=by omega
     rw[List.filterMap_cons_some (b:=l.B) (by simp)]
     simp[this];omega
    ·by_cases h2:r=l.B
     ·subst h2
      rw[List.filterMap_cons_some (b:=l.A) (by simp[h1])]
      simp[h1];omega
     ·rw[List.filterMap_cons_none (by simp[h1,h2])]
      simp[h1,h2]
   simp only[e2]
   have cnt:∀(I:List Int) (x:Int),I.Nodup→x∈I→(I.map λr=>if r=x then 1 else 0).sum=1:=by
    intro I x
    induction I with
    |nil=>intro _ h;cases h
    |cons a I ih2=>
     intro hn hx
     rw[List.nodup_cons]at hn
     simp only[List.map_cons,List.sum_cons]
     by_cases e3:a=x
     ·subst e3
      have:(I.map λr=>if r=a then 1 else 0).sum=0:=by
       have h0:∀J:List Int,a∉J→(J.map λr=>if r=a then 1 else 0).sum=0:=by
        intro J
        induction J with
        |nil=>intro _;rfl
        |cons b J ih4=>
         intro hb
         simp only[List.mem_cons,not_or]at hb
         simp only[List.map_cons,List.sum_cons,ih4 hb.2,if_neg (Ne.symm hb.1)]
       exact h0 I hn.1
      rw[if_pos rfl,this]
     ·rcases List.mem_cons.1 hx with rfl|hx
      ·exact absurd rfl e3
      ·rw[if_neg e3,ih2 hn.2 hx]
   have sum3:∀(I:List Int) (f g k:Int→Nat),(I.map λr=>f r+g r+k r).sum=(I.map f).sum+(I.map g).sum+(I.map k).sum:=by
    intro I f g k
    induction I with
    |nil=>rfl
    |cons a I ih3=>simp only[List.map_cons,List.sum_cons,ih3];omega
   rw[sum3 (ids t) (λr=>if r=l.A then 1 else 0) (λr=>if r=l.B then 1 else 0) (λr=>(L.filterMap (jP r)).length),cnt _ _ hnd hA,cnt _ _ hnd hB,ih,List.length_cons]
   omega
 exact key t.Links λl hl=>⟨iQ.2 (hv.ends l hl).1,iQ.2 (hv.ends l hl).2,hv.lt l hl⟩
theorem al8(hv:Vt t):(gL t).length=t.aj.length+2*t.Links.length:=by
 rw[←aqO hv,gL,List.length_flatMap]
 have:∀I:List Int,(I.map λr=>(qk t r).length).sum=I.length+(I.map λr=>(lV t r).length).sum:=by
  intro I
  induction I with
  |nil=>rfl
  |cons a I ih=>
   have hr:(qk t a).length=1+(lV t a).length:=by simp[qk];omega
   simp only[List.map_cons,List.sum_cons,ih,List.length_cons,hr];omega
 rw[this,show(ids t).length=t.aj.length by simp[ids]]
def kY(t:aa)(n:Int):aC×Int:=
 if eU t=0 then bif !kU n then(aC.mk 0 [],2)else if n<((gL t).length:Int)then(aC.mk 0 [],3)else(aC.mk n (jr 0 (gL t)),0)else(aC.mk 0 [],1)
theorem zf(hv:Vt t):(gL t).length≤144:=by
 rw[al8 hv];have:=hv.nr;have:=hv.nl;omega
theorem ago{α:Type}{β:Type}(f:α→Int×Int×Int){B:Int→α→(List ay→Option β)→List ay→Option β}{K:List ay→Option β}
  (hB:∀j x Z (s:List ay),s.length<1000→B j x Z s=Z (s++[ay.mk (s.length:Int) (f x).1 (f x).2.1 (f x).2.2])):∀(l:List α) (j:Nat) (s:List ay),s.length+l.length≤1000→bD l j B K s=K (s++jr s.length (l.map f))
 |[],_,s,_=>by simp[bD,jr]
 |x::r,j,s,h=>by
  simp only[List.length_cons]at h
  simp only[bD]
  rw[hB _ _ _ _ (by omega),ago f hB r (j+1) _ (by simp;omega)]
  simp only[List.length_append,List.length_singleton,List.map_cons,jr,List.append_assoc,List.singleton_append]
theorem ajK{α:Type}{β:Type}(f:α→List (Int×Int×Int)){L:List α}{B:Int→α→(List ay→Option β)→List ay→Option β}{K:List ay→Option β}(hL:(L.flatMap f).length≤900)
  (hB:∀j x Z (s:List ay),x∈L→s.length+(f x).length≤900→B j x Z s=Z (s++jr s.length (f x))):bD L 0 B K []=K (jr 0 (L.flatMap f)):=by
 refine(jQ (L:=L) (λp s=>s=jr 0 (p.flatMap f)) (λp l=>K (jr 0 (L.flatMap f))) (λs hs=>by rw[hs]) (λp x r s Z h hi hZ=>?_) L [] [] rfl rfl)
 subst hi
 have hlen:(jr 0 (p.flatMap f)).length+(f x).length≤900:=by
  rw[rQ]
  have:(L.flatMap f).length=(p.flatMap f).length+((f x).length+(r.flatMap f).length):=by rw[←h];simp
  omega
 rw[hB _ _ _ _ (by rw[←h];simp) hlen]
 refine hZ _ ?_
 rw[List.flatMap_append,agm,rQ]
 simp
theorem adm(t:aa)(n:Int):mP t n=some (kY t n):=by
 unfold mP kY mG
 simp only[mD,aM]
 by_cases hc:eU t=0
 ·have hv:=fK.1 hc
  have hk:=zf hv
  simp only[hc,decide_true,Bool.not_true,cond_false,if_true]
  show(bif !kU n then _ else _)=_
  cases kU n
  ·rfl
  simp only[Bool.not_true,cond_false]
  have e:gL t=t.aj.flatMap λr=>qk t r.ID:=by unfold gL ids;rw[List.flatMap_map]
  refine(ajK (λr:aQ=>qk t r.ID) (by rw[←e];omega) (λj x Z s hx hs=>?_)).trans ?_
  ·simp only[qk,List.length_cons,List.length_map]at hs
   rw[ki (by omega),aM,adY,aM,if_pos hc]
   refine(ago (λq:Int=>(x.ID,(1:Int),q)) (λj q Z s hs=>by rw[ki (by omega),aM]) _ _ _ (by simp;omega)).trans ?_
   simp only[List.append_assoc,qk,jr,List.length_append,List.length_singleton,List.singleton_append]
  ·rw[←e,rQ]
   by_cases hn:n<((gL t).length:Int)
   ·simp[hn]
   ·simp[hn]
 ·simp[hc]
structure ait(t:aa)(a:ay):Prop where
 r:a.aK∈ids t
 q:a.To∈ids t
 k:(a.Kind=3∧a.To=a.aK)∨(a.Kind=1∧gP t a.aK a.To=true)∨(a.Kind=2∧a.To≠a.aK)
structure EL(t:aa)(n:Nat)(m:List ay):Prop where
 bit:∀i a,m[i]?=some a→a.Bit=((n+i:Nat):Int)
 ok:∀a∈m,ait t a
 dup:m.Pairwise λa b=>tgA a≠tgA b
theorem EL.nil(t:aa)(n:Nat):EL t n []:=⟨by simp,by simp,by simp⟩
variable {m:List ay}
theorem EL.add(h:EL t 0 m){x:ay}(hb:x.Bit=m.length)(hx:ait t x)(hd:∀a∈m,tgA a≠tgA x):EL t 0 (m++[x]):=by
 refine⟨λi a hi=>?_,λa ha=>?_,List.pairwise_append.2 ⟨h.dup,by simp,λa ha b hb=>?_⟩⟩
 ·rw[List.getElem?_append]at hi
  split at hi
  ·exact h.bit i a hi
  ·rename_i hlt
   have e:i=m.length:=by
    have:=(List.getElem?_eq_some_iff.1 hi).1;simp at this;omega
   subst e;simp at hi;subst hi;rw[hb];simp
 ·rcases List.mem_append.1 ha with ha|ha
  ·exact h.ok a ha
  ·simp at ha;subst ha;exact hx
 ·simp at hb;subst hb;exact hd a ha
theorem EL.take{t:aa}{n k:Nat}{m:List ay}(h:EL t n m):EL t n (m.take k):=
 ⟨λi a hi=>h.bit i a (by rw[List.getElem?_take]at hi;split at hi;exact hi;cases hi),λa ha=>h.ok a (List.mem_of_mem_take ha),h.dup.sublist (List.take_sublist k m)⟩
structure Ef(t:aa)(e:aC):Prop where
 v:Ve e
 ok:∀a∈e.List,ait t a
theorem EL.ef{n:Nat}{len:Int}(hv:Vt t)(h:EL t n m)(hl:len=8∨len=16∨len=32∨len=64)(hm:(n:Int)+m.length≤len):Ef t (aC.mk len m):=by
 have asc:m.Pairwise λa b=>a.Bit<b.Bit:=List.pairwise_iff_getElem.2 λi j hi hj hij=>by
  have h1:=h.bit i _ (List.getElem?_eq_getElem hi);have h2:=h.bit j _ (List.getElem?_eq_getElem hj)
  omega
 refine⟨⟨hl,λa ha=>?_,λa ha=>?_,λa ha=>?_,asc,h.dup⟩,h.ok⟩
 ·obtain⟨i,hi⟩:=List.getElem?_of_mem ha
  have hb:=h.bit i a hi
  have hlt:i<m.length:=(List.getElem?_eq_some_iff.1 hi).1
  exact⟨by omega,by simp only;omega,adl hv (h.ok a ha).r,adl hv (h.ok a ha).q⟩
 ·have:=(h.ok a ha).k;omega
 ·rcases(h.ok a ha).k with⟨h1,h2⟩|⟨h1,h2⟩|⟨h1,h2⟩
  ·simp[h1,h2]
  ·have:=aus hv h2
   simp[h1,Ne.symm this]
  ·simp[h1,h2]
theorem zg(hv:Vt t){r k q:Int}:(r,k,q)∈gL t↔r∈ids t∧((k=3∧q=r)∨(k=1∧gP t r q=true)):=by
 unfold gL qk
 simp only[List.mem_flatMap,List.mem_cons,List.mem_map,Prod.mk.injEq,mF hv]
 constructor
 ·rintro⟨a,ha,⟨rfl,rfl,rfl⟩|⟨b,hb,rfl,rfl,rfl⟩⟩
  ·exact⟨ha,.inl ⟨rfl,rfl⟩⟩
  ·exact⟨ha,.inr ⟨rfl,hb⟩⟩
 ·rintro⟨ha,⟨rfl,rfl⟩|⟨rfl,hb⟩⟩
  ·exact⟨q,ha,.inl ⟨rfl,rfl,rfl⟩⟩
  ·exact⟨r,ha,.inr ⟨q,hb,rfl,rfl,rfl⟩⟩
theorem aiu(hv:Vt t):(gL t).Nodup:=by
 unfold gL
 refine List.pairwise_flatMap.2 ⟨λr _=>?_,?_⟩
 ·show(qk t r).Nodup
  unfold qk
  rw[List.nodup_cons]
  refine⟨λh=>?_,?_⟩
  ·obtain⟨x,_,hx⟩:=List.mem_map.1 h;cases hx
  ·exact List.Pairwise.map _ (λa b (hab:a<b) he=>by simp at he;omega) (y5 hv r)
 ·refine(yo hv).imp λ{a b} hab=>?_
  intro x hx y hy hxy
  subst hxy
  have e1:x.1=a:=by
   rcases List.mem_cons.1 hx with rfl|hx
   ·rfl
   ·obtain⟨_,_,rfl⟩:=List.mem_map.1 hx;rfl
  have e2:x.1=b:=by
   rcases List.mem_cons.1 hy with rfl|hy
   ·rfl
   ·obtain⟨_,_,rfl⟩:=List.mem_map.1 hy;rfl
  omega
theorem aqP(hv:Vt t):EL t 0 (jr 0 (gL t)):=by
 refine⟨λi a hi=>(wI _ _ _ _ hi).1,λa ha=>?_,?_⟩
 ·obtain⟨h1,h2⟩:=(zg hv).1 (agn ha).1
  rcases h2 with⟨h2,h3⟩|⟨h2,h3⟩
  ·exact⟨h1,by rw[h3];exact h1,.inl ⟨h2,h3⟩⟩
  ·exact⟨h1,nj hv h3,.inr (.inl ⟨h2,h3⟩)⟩
 ·refine List.pairwise_iff_getElem.2 λi j hi hj hij he=>?_
  have h1:=(wI _ _ _ _ (List.getElem?_eq_getElem hi)).2;have h2:=(wI _ _ _ _ (List.getElem?_eq_getElem hj)).2
  simp only[tgA,bP.mk.injEq]at he
  obtain⟨q1,e1⟩:=List.getElem?_eq_some_iff.1 h1
  obtain⟨q2,e2⟩:=List.getElem?_eq_some_iff.1 h2
  have:=List.pairwise_iff_getElem.1 (aiu hv) i j q1 q2 hij
  exact this (by rw[e1,e2,he.1,he.2.1,he.2.2])
end Go.Proofs.YtdjeacigeegklaaGreat
