/- Plain: the bits of an wH. No condition but bK bn stand in each. -/
import Derived.Test.YtdjeacigeegklaaGreatPYH
namespace Go.Proofs.YtdjeacigeegklaaGreat
set_option linter.all false
open Go
theorem aht:∀(l:List Int) (lo hi:Int),l.Pairwise (·<·)→(∀x∈l,lo≤x∧x<hi)→(l.length:Int)≤max (hi-lo) 0
 |[],lo,hi,_,_=>by simp;omega
 |x::r,lo,hi,h,hb=>by
  rw[List.pairwise_cons]at h
  have:=aht r (x+1) hi h.2 λy hy=>⟨by have:=h.1 y hy;omega,(hb y (by simp[hy])).2⟩
  have:=hb x (by simp)
  rw[List.length_cons];omega
theorem Ve.small{e:aC}(h:Ve e):e.List.length≤64:=by
 have:=aht (e.List.map (·.Bit)) 0 64 (List.pairwise_map.2 h.asc) λx hx=>by
  obtain⟨a,ha,rfl⟩:=List.mem_map.1 hx
  exact h.bit ha
 rw[List.length_map]at this;omega
variable {a b:ay}
theorem Ve.abe{e:aC}(h:Ve e)(ha:a∈e.List)(hb:b∈e.List)(hab:a.Bit=b.Bit):a=b:=by
 obtain⟨i,hi⟩:=List.getElem?_of_mem ha
 obtain⟨j,hj⟩:=List.getElem?_of_mem hb
 obtain⟨h1,rfl⟩:=List.getElem?_eq_some_iff.1 hi
 obtain⟨h2,rfl⟩:=List.getElem?_eq_some_iff.1 hj
 have hp:=List.pairwise_iff_getElem.1 h.asc
 rcases Nat.lt_trichotomy i j with hij|hij|hij
 ·have:=hp i j h1 h2 hij;omega
 ·subst hij;rfl
 ·have:=hp j i h2 h1 hij;omega
theorem Ve.key_inj{e:aC}(h:Ve e)(ha:a∈e.List)(hb:b∈e.List)(hab:tgA a=tgA b):a=b:=by
 obtain⟨i,hi⟩:=List.getElem?_of_mem ha
 obtain⟨j,hj⟩:=List.getElem?_of_mem hb
 obtain⟨h1,rfl⟩:=List.getElem?_eq_some_iff.1 hi
 obtain⟨h2,rfl⟩:=List.getElem?_eq_some_iff.1 hj
 have hp:=List.pairwise_iff_getElem.1 h.dup
 rcases Nat.lt_trichotomy i j with hij|hij|hij
 ·exact absurd hab (hp i j h1 h2 hij)
 ·subst hij;rfl
 ·exact absurd hab.symm (hp j i h2 h1 hij)
theorem agp{r:Int}:∀(l:List ay) (acc:Int),B64 acc→(∀a∈l,0≤a.Bit∧a.Bit<64)→B64 (l.foldl (wF r) acc)∧∀i,tbi (l.foldl (wF r) acc) i=(tbi acc i||decide (∃a∈l,a.aK=r∧a.Bit=i))
 |[],acc,h,_=>⟨h,λi=>by simp⟩
 |a::l,acc,h,hb=>by
  have hb1:=hb a (by simp)
  have hB:B64 (wF r acc a):=by unfold wF;split;exact auB;exact h
  obtain⟨h1,h2⟩:=agp l (wF r acc a) hB λx hx=>hb x (by simp[hx])
  refine⟨h1,λi=>?_⟩
  rw[List.foldl_cons,h2]
  unfold wF
  by_cases hr:a.aK=r
  ·rw[if_pos hr,anB h (adi (by omega)),sD a.Bit.toNat i (by omega),Bool.eq_iff_iff]
   simp only[Bool.or_eq_true,decide_eq_true_eq,List.mem_cons]
   constructor
   ·rintro((h|h)|⟨x,hx,h3⟩)
    ·exact .inl h
    ·exact .inr ⟨a,.inl rfl,hr,by omega⟩
    ·exact .inr ⟨x,.inr hx,h3⟩
   ·rintro(h|⟨x,rfl|hx,h3,h4⟩)
    ·exact .inl (.inl h)
    ·exact .inl (.inr (by omega))
    ·exact .inr ⟨x,hx,h3,h4⟩
  ·rw[if_neg hr];simp[hr]
theorem auF{e:aC}(h:Ve e)(r:Int)(i:Nat):tbi (qK e r) i=true↔∃a∈e.List,a.aK=r∧a.Bit=i:=by
 unfold qK;rw[if_pos (iX.2 h)]
 rw[(agp e.List 0 yt λa ha=>h.bit ha).2,oE,Bool.false_or,decide_eq_true_eq]
theorem aeV{e:aC}(h:Ve e)(ha:a∈e.List):nk e a.aK a.Kind a.To=(a.Bit,true):=by
 unfold nk xm;rw[if_pos (iX.2 h)]
 cases hf:e.List.find? (λx=>decide (x.aK=a.aK)&&(decide (x.Kind=a.Kind)&&decide (x.To=a.To)))with
 |none=>
  have:=List.find?_eq_none.1 hf a ha
  simp at this
 |some b=>
  have h1:=List.find?_some hf
  have h2:=List.mem_of_find?_eq_some hf
  simp only[Bool.and_eq_true,decide_eq_true_eq]at h1
  have:b=a:=h.key_inj h2 ha (by simp[tgA,h1.1,h1.2.1,h1.2.2])
  subst this;rfl
theorem agR{e:aC}{r k q b:Int}(hf:nk e r k q=(b,true)):Ve e∧∃a∈e.List,a.aK=r∧a.Kind=k∧a.To=q∧a.Bit=b:=by
 unfold nk xm at hf
 by_cases h:l8 e=0
 ·rw[if_pos h]at hf
  refine⟨iX.1 h,?_⟩
  cases hq:e.List.find? (λx=>decide (x.aK=r)&&(decide (x.Kind=k)&&decide (x.To=q)))with
  |none=>rw[hq]at hf;simp at hf
  |some a=>
   rw[hq]at hf;simp at hf
   have h1:=List.find?_some hq
   simp only[Bool.and_eq_true,decide_eq_true_eq]at h1
   exact⟨a,List.mem_of_find?_eq_some hq,h1.1,h1.2.1,h1.2.2,hf⟩
 ·rw[if_neg h]at hf;simp at hf
end Go.Proofs.YtdjeacigeegklaaGreat
