/- Plain: the full aan, and the ady bx the later aaY tape makes. No condition but bO bx stand in each. -/
import Derived.Test.YtdjeacigeegklaaGreatPYF
namespace Go.Proofs.YtdjeacigeegklaaGreat
set_option linter.all false
open Go
def qp(t:aa)(r:Int):List (Int×Int×Int):=(r,3,r)::(lM t r).map λq=>(r,1,q)
def jk(t:aa):List (Int×Int×Int):=(ids t).flatMap (qp t)
def lY:Nat→List (Int×Int×Int)→List az
 |_,[]=>[]
 |n,(r,k,q)::l=>az.mk (n:Int) r k q::lY (n+1) l
theorem uh:∀(n:Nat) (l:List (Int×Int×Int)),(lY n l).length=l.length
 |_,[]=>rfl
 |n,(r,k,q)::l=>by simp only[lY,List.length_cons,uh (n+1) l]
theorem afH:∀(n:Nat) (a b:List (Int×Int×Int)),lY n (a++b)=lY n a++lY (n+a.length) b
 |n,[],b=>by simp[lY]
 |n,(r,k,q)::l,b=>by
  simp only[List.cons_append,lY,afH (n+1) l b,List.length_cons]
  rw[show n+1+l.length=n+(l.length+1)by omega]
theorem wQ:∀(n:Nat) (l:List (Int×Int×Int)) (i:Nat) (a:az),(lY n l)[i]?=some a→a.Bit=((n+i:Nat):Int)∧l[i]?=some (a.br,a.Kind,a.To)
 |n,[],i,a,h=>by simp[lY]at h
 |n,(r,k,q)::l,0,a,h=>by simp[lY]at h;subst h;simp
 |n,(r,k,q)::l,i+1,a,h=>by
  simp only[lY,List.getElem?_cons_succ]at h
  obtain⟨h1,h2⟩:=wQ (n+1) l i a h
  exact⟨by rw[h1];omega,by simpa using h2⟩
theorem alh{n:Nat}{l:List (Int×Int×Int)}{a:az}(h:a∈lY n l):(a.br,a.Kind,a.To)∈l∧(n:Int)≤a.Bit∧a.Bit<n+l.length:=by
 obtain⟨i,hi⟩:=List.getElem?_of_mem h
 obtain⟨h1,h2⟩:=wQ _ _ _ _ hi
 have:=(List.getElem?_eq_some_iff.1 h2).1
 exact⟨List.mem_of_getElem? h2,by omega,by omega⟩
variable {t:aa}
theorem aiY(hv:Vt t)(r:Int):(lM t r).Perm (t.Links.filterMap (fT r)):=
 (List.perm_ext_iff_of_nodup ((y4 hv r).imp λh=>by omega) (uq hv r)).2 λx=>by rw[nJ hv,ad5 hv]
theorem apQ(hv:Vt t):((ids t).map λr=>(lM t r).length).sum=2*t.Links.length:=by
 have e:((ids t).map λr=>(lM t r).length)=(ids t).map λr=>(t.Links.filterMap (fT r)).length:=List.map_congr_left λr _=>(aiY hv r).length_eq
 rw[e]
 have hnd:(ids t).Nodup:=(yl hv).imp λh=>by omega
 have key:∀L:List bn,(∀l∈L,l.A∈ids t∧l.B∈ids t∧l.A<l.B)→((ids t).map λr=>(L.filterMap (fT r)).length).sum=2*L.length:=by
  intro L
  induction L with
  |nil=>intro _;simp;induction (ids t)<;>simp_all
  |cons l L ih=>
   intro h
   have ih:=ih λx hx=>h x (by simp[hx])
   obtain⟨hA,hB,hlt⟩:=h l (by simp)
   have e2:∀r,((l::L).filterMap (fT r)).length=(if r=l.A then 1 else 0)+(if r=l.B then 1 else 0)+(L.filterMap (fT r)).length:=λr=>by
    unfold fT
    by_cases h1:r=l.A
    ·subst h1
     have:¬l.A=l.B:=by omega
     rw[List.filterMap_cons_some (b:=l.B) (by simp)]
     simp[this];omega
    ·by_cases h2:r=l.B
     ·subst h2
      rw[List.filterMap_cons_some (b:=l.A) (by simp[h1])]
      simp[h1];omega
     ·rw[List.filterMap_cons_none (by simp[h1,h2])]
      simp[h1,h2]
   simp only[e2]
   have cnt:∀(I:List Int) (x:Int),I.Nodup→x∈I→(I.map λr=>if r=x then 1 else 0).sum=1:=by
    intro I x
    induction I with
    |nil=>intro _ h;cases h
    |cons a I ih2=>
     intro hn hx
     rw[List.nodup_cons]at hn
     simp only[List.map_cons,List.sum_cons]
     by_cases e3:a=x
     ·subst e3
      have:(I.map λr=>if r=a then 1 else 0).sum=0:=by
       have h0:∀J:List Int,a∉J→(J.map λr=>if r=a then 1 else 0).sum=0:=by
        intro J
        induction J with
        |nil=>intro _;rfl
        |cons b J ih4=>
         intro hb
         simp only[List.mem_cons,not_or]at hb
         simp only[List.map_cons,List.sum_cons,ih4 hb.2,if_neg (Ne.symm hb.1)]
       exact h0 I hn.1
      rw[if_pos rfl,this]
     ·rcases List.mem_cons.1 hx with rfl|hx
      ·exact absurd rfl e3
      ·rw[if_neg e3,ih2 hn.2 hx]
   have sum3:∀(I:List Int) (f g k:Int→Nat),(I.map λr=>f r+g r+k r).sum=(I.map f).sum+(I.map g).sum+(I.map k).sum:=by
    intro I f g k
    induction I with
    |nil=>rfl
    |cons a I ih3=>simp only[List.map_cons,List.sum_cons,ih3];omega
   rw[sum3 (ids t) (λr=>if r=l.A then 1 else 0) (λr=>if r=l.B then 1 else 0) (λr=>(L.filterMap (fT r)).length),cnt _ _ hnd hA,cnt _ _ hnd hB,ih,List.length_cons]
   omega
 exact key t.Links λl hl=>⟨gH.2 (hv.ends l hl).1,gH.2 (hv.ends l hl).2,hv.lt l hl⟩
theorem ali(hv:Vt t):(jk t).length=t.ah.length+2*t.Links.length:=by
 rw[←apQ hv,jk,List.length_flatMap]
 have:∀I:List Int,(I.map λr=>(qp t r).length).sum=I.length+(I.map λr=>(lM t r).length).sum:=by
  intro I
  induction I with
  |nil=>rfl
  |cons a I ih=>
   have hr:(qp t a).length=1+(lM t a).length:=by simp[qp];omega
   simp only[List.map_cons,List.sum_cons,ih,List.length_cons,hr];omega
 rw[this,show(ids t).length=t.ah.length by simp[ids]]
def vt(t:aa)(n:Int):aF×Int:=
 if fC t=0 then bif !lX n then(aF.mk 0 [],2)else if n<((jk t).length:Int)then(aF.mk 0 [],3)else(aF.mk n (lY 0 (jk t)),0)else(aF.mk 0 [],1)
theorem acQ(hv:Vt t):(jk t).length≤144:=by
 rw[ali hv];have:=hv.nr;have:=hv.nl;omega
theorem afI{α:Type}{β:Type}(f:α→Int×Int×Int){B:Int→α→(List az→Option β)→List az→Option β}{K:List az→Option β}
  (hB:∀j x Z (s:List az),s.length<1000→B j x Z s=Z (s++[az.mk (s.length:Int) (f x).1 (f x).2.1 (f x).2.2])):∀(l:List α) (j:Nat) (s:List az),s.length+l.length≤1000→bJ l j B K s=K (s++lY s.length (l.map f))
 |[],_,s,_=>by simp[bJ,lY]
 |x::r,j,s,h=>by
  simp only[List.length_cons]at h
  simp only[bJ]
  rw[hB _ _ _ _ (by omega),afI f hB r (j+1) _ (by simp;omega)]
  simp only[List.length_append,List.length_singleton,List.map_cons,lY,List.append_assoc,List.singleton_append]
theorem aiZ{α:Type}{β:Type}(f:α→List (Int×Int×Int)){L:List α}{B:Int→α→(List az→Option β)→List az→Option β}{K:List az→Option β}(hL:(L.flatMap f).length≤900)
  (hB:∀j x Z (s:List az),x∈L→s.length+(f x).length≤900→B j x Z s=Z (s++lY s.length (f x))):bJ L 0 B K []=K (lY 0 (L.flatMap f)):=by
 refine(jM (L:=L) (λp s=>s=lY 0 (p.flatMap f)) (λp l=>K (lY 0 (L.flatMap f))) (λs hs=>by rw[hs]) (λp x r s Z h hi hZ=>?_) L [] [] rfl rfl)
 subst hi
 have hlen:(lY 0 (p.flatMap f)).length+(f x).length≤900:=by
  rw[uh]
  have:(L.flatMap f).length=(p.flatMap f).length+((f x).length+(r.flatMap f).length):=by rw[←h];simp
  omega
 rw[hB _ _ _ _ (by rw[←h];simp) hlen]
 refine hZ _ ?_
 rw[List.flatMap_append,afH,uh]
 simp
theorem acR(t:aa)(n:Int):mM t n=some (vt t n):=by
 unfold mM vt mC
 simp only[lF,aN]
 by_cases hc:fC t=0
 ·have hv:=gE.1 hc
  have hk:=acQ hv
  simp only[hc,decide_true,Bool.not_true,cond_false,if_true]
  show(bif !lX n then _ else _)=_
  cases lX n
  ·rfl
  simp only[Bool.not_true,cond_false]
  have e:jk t=t.ah.flatMap λr=>qp t r.ID:=by unfold jk ids;rw[List.flatMap_map]
  refine(aiZ (λr:aQ=>qp t r.ID) (by rw[←e];omega) (λj x Z s hx hs=>?_)).trans ?_
  ·simp only[qp,List.length_cons,List.length_map]at hs
   rw[lW (by omega),aN,uc,aN,if_pos hc]
   refine(afI (λq:Int=>(x.ID,(1:Int),q)) (λj q Z s hs=>by rw[lW (by omega),aN]) _ _ _ (by simp;omega)).trans ?_
   simp only[List.append_assoc,qp,lY,List.length_append,List.length_singleton,List.singleton_append]
  ·rw[←e,uh]
   by_cases hn:n<((jk t).length:Int)
   ·simp[hn]
   ·simp[hn]
 ·simp[hc]
structure ahR(t:aa)(a:az):Prop where
 r:a.br∈ids t
 q:a.To∈ids t
 k:(a.Kind=3∧a.To=a.br)∨(a.Kind=1∧mm t a.br a.To=true)∨(a.Kind=2∧a.To≠a.br)
structure EL(t:aa)(n:Nat)(m:List az):Prop where
 bit:∀i a,m[i]?=some a→a.Bit=((n+i:Nat):Int)
 ok:∀a∈m,ahR t a
 dup:m.Pairwise λa b=>tgA a≠tgA b
theorem EL.nil(t:aa)(n:Nat):EL t n []:=⟨by simp,by simp,by simp⟩
variable {m:List az}
theorem EL.add(h:EL t 0 m){x:az}(hb:x.Bit=m.length)(hx:ahR t x)(hd:∀a∈m,tgA a≠tgA x):EL t 0 (m++[x]):=by
 refine⟨λi a hi=>?_,λa ha=>?_,List.pairwise_append.2 ⟨h.dup,by simp,λa ha b hb=>?_⟩⟩
 ·rw[List.getElem?_append]at hi
  split at hi
  ·exact h.bit i a hi
  ·rename_i hlt
   have e:i=m.length:=by
    have:=(List.getElem?_eq_some_iff.1 hi).1;simp at this;omega
   subst e;simp at hi;subst hi;rw[hb];simp
 ·rcases List.mem_append.1 ha with ha|ha
  ·exact h.ok a ha
  ·simp at ha;subst ha;exact hx
 ·simp at hb;subst hb;exact hd a ha
theorem EL.take{t:aa}{n k:Nat}{m:List az}(h:EL t n m):EL t n (m.take k):=
 ⟨λi a hi=>h.bit i a (by rw[List.getElem?_take]at hi;split at hi;exact hi;cases hi),λa ha=>h.ok a (List.mem_of_mem_take ha),h.dup.sublist (List.take_sublist k m)⟩
structure Ef(t:aa)(e:aF):Prop where
 v:Ve e
 ok:∀a∈e.List,ahR t a
theorem EL.ef{n:Nat}{len:Int}(hv:Vt t)(h:EL t n m)(hl:len=8∨len=16∨len=32∨len=64)(hm:(n:Int)+m.length≤len):Ef t (aF.mk len m):=by
 have asc:m.Pairwise λa b=>a.Bit<b.Bit:=List.pairwise_iff_getElem.2 λi j hi hj hij=>by
  have h1:=h.bit i _ (List.getElem?_eq_getElem hi);have h2:=h.bit j _ (List.getElem?_eq_getElem hj)
  omega
 refine⟨⟨hl,λa ha=>?_,λa ha=>?_,λa ha=>?_,asc,h.dup⟩,h.ok⟩
 ·obtain⟨i,hi⟩:=List.getElem?_of_mem ha
  have hb:=h.bit i a hi
  have hlt:i<m.length:=(List.getElem?_eq_some_iff.1 hi).1
  exact⟨by omega,by simp only;omega,aeG hv (h.ok a ha).r,aeG hv (h.ok a ha).q⟩
 ·have:=(h.ok a ha).k;omega
 ·rcases(h.ok a ha).k with⟨h1,h2⟩|⟨h1,h2⟩|⟨h1,h2⟩
  ·simp[h1,h2]
  ·have:=atC hv h2
   simp[h1,Ne.symm this]
  ·simp[h1,h2]
theorem alj(hv:Vt t){r k q:Int}:(r,k,q)∈jk t↔r∈ids t∧((k=3∧q=r)∨(k=1∧mm t r q=true)):=by
 unfold jk qp
 simp only[List.mem_flatMap,List.mem_cons,List.mem_map,Prod.mk.injEq,nJ hv]
 constructor
 ·rintro⟨a,ha,⟨rfl,rfl,rfl⟩|⟨b,hb,rfl,rfl,rfl⟩⟩
  ·exact⟨ha,.inl ⟨rfl,rfl⟩⟩
  ·exact⟨ha,.inr ⟨rfl,hb⟩⟩
 ·rintro⟨ha,⟨rfl,rfl⟩|⟨rfl,hb⟩⟩
  ·exact⟨q,ha,.inl ⟨rfl,rfl,rfl⟩⟩
  ·exact⟨r,ha,.inr ⟨q,hb,rfl,rfl,rfl⟩⟩
theorem ahS(hv:Vt t):(jk t).Nodup:=by
 unfold jk
 refine List.pairwise_flatMap.2 ⟨λr _=>?_,?_⟩
 ·show(qp t r).Nodup
  unfold qp
  rw[List.nodup_cons]
  refine⟨λh=>?_,?_⟩
  ·obtain⟨x,_,hx⟩:=List.mem_map.1 h;cases hx
  ·exact List.Pairwise.map _ (λa b (hab:a<b) he=>by simp at he;omega) (y4 hv r)
 ·refine(yl hv).imp λ{a b} hab=>?_
  intro x hx y hy hxy
  subst hxy
  have e1:x.1=a:=by
   rcases List.mem_cons.1 hx with rfl|hx
   ·rfl
   ·obtain⟨_,_,rfl⟩:=List.mem_map.1 hx;rfl
  have e2:x.1=b:=by
   rcases List.mem_cons.1 hy with rfl|hy
   ·rfl
   ·obtain⟨_,_,rfl⟩:=List.mem_map.1 hy;rfl
  omega
theorem apR(hv:Vt t):EL t 0 (lY 0 (jk t)):=by
 refine⟨λi a hi=>(wQ _ _ _ _ hi).1,λa ha=>?_,?_⟩
 ·obtain⟨h1,h2⟩:=(alj hv).1 (alh ha).1
  rcases h2 with⟨h2,h3⟩|⟨h2,h3⟩
  ·exact⟨h1,by rw[h3];exact h1,.inl ⟨h2,h3⟩⟩
  ·exact⟨h1,ua hv h3,.inr (.inl ⟨h2,h3⟩)⟩
 ·refine List.pairwise_iff_getElem.2 λi j hi hj hij he=>?_
  have h1:=(wQ _ _ _ _ (List.getElem?_eq_getElem hi)).2;have h2:=(wQ _ _ _ _ (List.getElem?_eq_getElem hj)).2
  simp only[tgA,cO.mk.injEq]at he
  obtain⟨q1,e1⟩:=List.getElem?_eq_some_iff.1 h1
  obtain⟨q2,e2⟩:=List.getElem?_eq_some_iff.1 h2
  have:=List.pairwise_iff_getElem.1 (ahS hv) i j q1 q2 hij
  exact this (by rw[e1,e2,he.1,he.2.1,he.2.2])
end Go.Proofs.YtdjeacigeegklaaGreat
