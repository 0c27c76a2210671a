/- Plain: the bits of a tree, by both texts. No condition but bU bx stand in each. -/
import Derived.Test.YtdjeacigeegklaaGreatPYI
namespace Go.Proofs.YtdjeacigeegklaaGreat
set_option linter.all false
open Go
theorem awl{l:List Int}(hl:l.length≤1000000)(ha:l.Pairwise (·<·))(x:Int):∃i,fJ l x=some (i,decide (x∈l)):=by
 have e:bsT (λy:Int=>fN y x) l=decide (x∈l):=by
  rw[Bool.eq_iff_iff,decide_eq_true_eq,acA (qN (ha.imp λ{a b} h=>?_))]
  ·constructor
   ·rintro⟨y,hy,h⟩;rw[lK]at h;subst h;exact hy
   ·intro h;exact⟨x,h,lK.2 rfl⟩
  ·unfold fN;repeat' split
   all_goals omega
 refine⟨(bsR (λy:Int=>fN y x) l:Int),?_⟩
 rw[←e]
 unfold fJ
 have less:∀y:Int,nI y x=some (decide (y<x)):=λy=>by
  unfold nI gH
  simp[aV]
 refine acz l (λy:Int=>fN y x) hl λi j Z hj=>?_
 by_cases hij:i<j
 ·rw[dif_pos hij]
  simp only[acy (i:=i) (j:=j) (by omega),tF (show(i+j) / 2<l.length by omega),aV,less,oC]
  rw[if_pos (by omega),gj (by omega) (by omega)]
  by_cases h:el l ((i+j) / 2:Nat)<x
  ·rw[if_pos h,if_pos (zV.2 h)];rfl
  ·rw[if_neg h,if_neg (λhh=>h (zV.1 hh))]
 ·rw[dif_neg hij]
  simp only[oC]
  rw[if_neg (by omega)]
  by_cases hi:i<l.length
  ·rw[if_pos (by omega),tF hi]
   simp only[aV,kL]
   by_cases h:el l i=x
   ·rw[if_pos h,decide_eq_true hi,decide_eq_true (lK.2 h)];rfl
   ·rw[if_neg h,decide_eq_true hi,decide_eq_false (λhh=>h (lK.1 hh))];simp
  ·rw[if_neg (by omega)];simp[hi]
theorem ame(l:List Int):kM l=some (orI l):=by
 unfold kM
 exact(aeg l).symm▸by
  unfold lR;rfl
def vn(r:Int):aS:=aS.mk r 3 r
def vo(h:cB):aS:=aS.mk h.ct 1 h.To
def iI(e:aG)(k:aS):Int×Bool:=vO e k.bY k.qs k.to_
def vQ(t:cM)(rs:List Int):List aS:=rs.map vn++t.Links.map vo
def orK(e:aG)(s:Int)(k:aS):Int:=bB .or .u64 s (tP (iI e k).1.toNat)
noncomputable def z8(e:aG)(t:cM)(rs:List Int):Int×Int:=
 if jY e=0 then if ckT t=0 then
  bif !jc (λa b=>decide (a<b)) rs then(0,25)else bif rs.any (λr=>!decide (r∈qQ t))then(0,8)else
  bif (vQ t rs).any (λk=>!(iI e k).2)then(0,4)else((vQ t rs).foldl (orK e) 0,0)
 else(0,ckT t)else(0,jY e)
theorem aaa{e:aG}(h:Ve e){k:aS}(hk:(iI e k).2=true):0≤(iI e k).1∧(iI e k).1<64:=by
 unfold iI vO at *
 cases hf:e.List.find? (λx=>decide (x.aN=k.bY)&&(decide (x.Kind=k.qs)&&decide (x.To=k.to_)))with
 |none=>rw[hf]at hk;cases hk
 |some a=>exact h.bit (List.mem_of_find?_eq_some hf)
theorem zk{α β:Type}{L:List α}{B:Int→α→(Int→Option β)→Int→Option β}{K:Int→Option β}(fi:α→Int×Bool)(a:Option β)(g:Int→α→Int)(hB:∀j x Z s,x∈L→B j x Z s=bif !(fi x).2 then a else Z (g s x))(s:Int):
  bF L 0 B K s=bif L.any (λx=>!(fi x).2)then a else K (L.foldl g s):=by
 have key:∀(l:List α) (j:Nat) (s:Int),(∀x∈l,x∈L)→bF l j B K s=bif l.any (λx=>!(fi x).2)then a else K (l.foldl g s):=by
  intro l
  induction l with
  |nil=>intro j s _;rfl
  |cons x r ih=>
   intro j s h
   simp only[bF]
   rw[hB _ _ _ _ (h x (by simp)),ih (j+1) _ (λy hy=>h y (by simp[hy])),List.any_cons,List.foldl_cons]
   cases(fi x).2<;>rfl
 exact key L 0 s λ_ h=>h
theorem abf{α γ β:Type}{B:Int→α→(List γ→Option β)→List γ→Option β}{K:List γ→Option β}(f:α→γ)(p:α→Bool)(a:Option β)(hB:∀j x Z s,s.length<1000000→B j x Z s=bif p x then a else Z (s++[f x])):∀(l:List α) (j:Nat) (s:List γ),s.length+l.length≤1000000→bF l j B K s=bif l.any p then a else K (s++l.map f)
 |[],_,s,_=>by simp[bF]
 |x::r,j,s,h=>by
  simp only[List.length_cons]at h
  simp only[bF]
  rw[hB _ _ _ _ (by omega),abf f p a hB r (j+1) _ (by simp;omega),List.any_cons]
  cases p x
  ·simp
  ·rfl
theorem amf{β:Type}{l:List Int}(hl:l.length≤1000000){B:Int→Int→(Unit→Option β)→Unit→Option β}{K:Unit→Option β}(a:Option β)(hB:∀j x Z s,B j x Z s=bnd (elO l (w64 (j-1))) λe=>bif decide (x≤e)then a else Z s):bF (List.drop 1 l) 1 B K ()=bif jc (λa b=>decide (a<b)) l then K ()else a:=
 nS (λa b:Int=>decide (a<b)) a (λj x y r q s Z hL hj=>by
  rw[hB,mX hL hj (by omega),aV]
  by_cases h:y<x
  ·have:¬x≤y:=by omega
   simp[h,this]
  ·have:x≤y:=by omega
   simp[h,this]) _
theorem amg(e:aG)(t:cM)(rs:List Int)(h1:e.List.length≤100000)(h2:t.Links.length≤100000)(h3:rs.length≤100000):lU e t rs=some (z8 e t rs):=by
 unfold lU z8
 simp only[lY e (by omega),yc t (by omega),aV,ame]
 by_cases hv:jY e=0
 ·by_cases hc:ckT t=0
  ·have e0:orI [jY e,ckT t]=0:=by rw[hv,hc];rfl
   simp only[e0,decide_true,Bool.not_true,cond_false,hv,hc,if_true]
   refine(amf (by omega) (some ((0:Int),(25:Int))) (by intros;rfl)).trans ?_
   cases jc (λa b:Int=>decide (a<b)) rs
   ·rfl
   simp only[cond_true,Bool.not_true,cond_false,aeX t h2,aV]
   refine(abf vn (λr=>!decide (r∈qQ t)) (some ((0:Int),(8:Int))) (λj x Z s hs=>?_) _ _ _ (by simp;omega)).trans ?_
   ·obtain⟨i,hi⟩:=awl (l:=qQ t) (by have:=afs t;omega) (awj t) x
    rw[hi,aV,mY hs,aV];rfl
   cases rs.any (λr=>!decide (r∈qQ t))
   ·simp only[cond_false,List.nil_append]
    refine(abf vo (λ_=>false) none (λj x Z s hs=>by rw[mY hs,aV];rfl) _ _ _ (by simp;omega)).trans ?_
    rw[show t.Links.any (λ_=>false)=false by rw[any_false];intros;rfl,cond_false]
    show bF (vQ t rs) 0 _ _ _=_
    refine(zk (iI e) (some ((0:Int),(4:Int))) (orK e) (λj x Z s hx=>?_) _).trans ?_
    ·rw[ahY,aV]
     show(bif !(iI e x).2 then _ else _)=_
     cases hf:(iI e x).2
     ·rfl
     ·obtain⟨b1,b2⟩:=aaa (mK.1 hv) hf
      show chk (decide (0≤(iI e x).1)) (Z (bB .or .u64 s (IntKind.wrap .u64 ((1:Int)*2 ^ min (iI e x).1.toNat 64))))=_
      rw[decide_eq_true b1,tQ b1 b2];rfl
    ·cases(vQ t rs).any (λk=>!(iI e k).2)<;>rfl
   ·rfl
  ·have e0:orI [jY e,ckT t]=ckT t:=by simp[orI,hv,hc]
   rw[e0,if_pos hv,if_neg hc,decide_eq_false hc];rfl
 ·have e0:orI [jY e,ckT t]=jY e:=by simp[orI,hv]
  simp[e0,hv]
theorem acM{e:aG}:∀(l:List aS) (acc:Int),B64 acc→(∀k∈l,0≤(iI e k).1∧(iI e k).1<64)→B64 (l.foldl (orK e) acc)∧∀i,tbi (l.foldl (orK e) acc) i=true↔tbi acc i=true∨∃k∈l,(iI e k).1=(i:Int)
 |[],acc,h,_=>⟨h,λi=>by simp⟩
 |a::l,acc,h,hb=>by
  have hb1:=hb a (by simp)
  obtain⟨h1,h2⟩:=acM l (orK e acc a) or_b λx hx=>hb x (by simp[hx])
  refine⟨h1,λi=>?_⟩
  rw[List.foldl_cons,h2]
  unfold orK
  rw[aBk h (aet (by omega)),ta (iI e a).1.toNat i (by omega),Bool.or_eq_true,decide_eq_true_eq]
  constructor
  ·rintro((h|h)|⟨x,hx,h3⟩)
   ·exact .inl h
   ·exact .inr ⟨a,by simp,by omega⟩
   ·exact .inr ⟨x,by simp[hx],h3⟩
  ·rintro(h|⟨x,hx,h3⟩)
   ·exact .inl (.inl h)
   ·rcases List.mem_cons.1 hx with rfl|hx
    ·exact .inl (.inr (by omega))
    ·exact .inr ⟨x,hx,h3⟩
theorem agQ(e:aG)(t:cM)(rs:List Int)(h1:e.List.length≤90000)(h2:t.Links.length≤90000)(h3:rs.length≤90000):o8 e t rs=some (z8 e t rs):=by
 unfold o8 z8
 simp only[iY e (by omega),vP t (by omega),aV,ah1 rs (by omega)]
 by_cases hv:jY e=0
 ·by_cases hc:ckT t=0
  ·simp only[decide_true,Bool.not_true,cond_false,hv,hc,if_true]
   cases jc (λa b:Int=>decide (a<b)) rs
   ·rfl
   simp only[Bool.not_true,cond_false,yd t h2,aV]
   refine(gP (λr=>!decide (r∈qQ t)) (some ((0:Int),(8:Int))) (λj x Z s=>by rw[aes,aV]) _ _ _).trans ?_
   cases rs.any (λr=>!decide (r∈qQ t))
   ·simp only[cond_false]
    have step:∀(k:aS) (s:Int) (Z:Int→Option (Int×Int)),(bif !(iI e k).2 then some ((0:Int),(4:Int))else chk (decide (0≤IntKind.wrap .u64 (iI e k).1))<|Z (bB .or .u64 s (IntKind.wrap .u64 ((1:Int)*2 ^ min (IntKind.wrap .u64 (iI e k).1).toNat 64))))=bif !(iI e k).2 then some ((0:Int),(4:Int))else Z (orK e s k):=λk s Z=>by
     cases hf:(iI e k).2
     ·rfl
     ·obtain⟨b1,b2⟩:=aaa (mK.1 hv) hf
      rw[wrap_u64 b1 (by omega),decide_eq_true b1,tQ b1 b2];rfl
    have hfT:∀r k q,uy e r k q=vO e r k q:=λr k q=>by unfold uy;rw[if_pos hv]
    refine(zk (λh:cB=>iI e (vo h)) (some ((0:Int),(4:Int))) (λs h=>orK e s (vo h)) (λj x Z s hx=>?_) _).trans ?_
    ·rw[uj e _ _ _ (by omega),aV,hfT];exact step (vo x) s Z
    have ea:(vQ t rs).any (λk=>!(iI e k).2)=(rs.any (λr=>!(iI e (vn r)).2)||t.Links.any (λh=>!(iI e (vo h)).2)):=by
     unfold vQ;rw[List.any_append,List.any_map,List.any_map];rfl
    rw[ea]
    cases hl:t.Links.any (λh=>!(iI e (vo h)).2)
    ·simp only[cond_false,Bool.or_false]
     refine(zk (λr:Int=>iI e (vn r)) (some ((0:Int),(4:Int))) (λs r=>orK e s (vn r)) (λj x Z s hx=>?_) _).trans ?_
     ·rw[uj e _ _ _ (by omega),aV,hfT];exact step (vn x) s Z
     cases hr:rs.any (λr=>!(iI e (vn r)).2)
     ·simp only[cond_false,Option.some.injEq,Prod.mk.injEq,and_true]
      have hR:∀k∈rs.map vn,0≤(iI e k).1∧(iI e k).1<64:=λk hk=>by
       obtain⟨r,hr2,rfl⟩:=List.mem_map.1 hk
       exact aaa (mK.1 hv) (by have:=any_false.1 hr r hr2;simpa using this)
      have hH:∀k∈t.Links.map vo,0≤(iI e k).1∧(iI e k).1<64:=λk hk=>by
       obtain⟨r,hr2,rfl⟩:=List.mem_map.1 hk
       exact aaa (mK.1 hv) (by have:=any_false.1 hl r hr2;simpa using this)
      have e1:rs.foldl (λs r=>orK e s (vn r)) (t.Links.foldl (λs h=>orK e s (vo h)) 0)=(t.Links.map vo++rs.map vn).foldl (orK e) 0:=by
       rw[List.foldl_append,List.foldl_map,List.foldl_map]
      rw[e1]
      obtain⟨a1,a2⟩:=acM (e:=e) (t.Links.map vo++rs.map vn) 0 ab2 λk hk=>(List.mem_append.1 hk).elim (hH k) (hR k)
      obtain⟨b1,b2⟩:=acM (e:=e) (vQ t rs) 0 ab2 λk hk=>(List.mem_append.1 hk).elim (hR k) (hH k)
      refine ab1 a1 b1 λi _=>?_
      rw[Bool.eq_iff_iff,a2,b2]
      unfold vQ
      simp only[List.mem_append]
      constructor
      ·rintro(h|⟨k,h|h,hk⟩)
       ·exact .inl h
       ·exact .inr ⟨k,.inr h,hk⟩
       ·exact .inr ⟨k,.inl h,hk⟩
      ·rintro(h|⟨k,h|h,hk⟩)
       ·exact .inl h
       ·exact .inr ⟨k,.inr h,hk⟩
       ·exact .inr ⟨k,.inl h,hk⟩
     ·rfl
    ·simp
   ·rfl
  ·simp[hv,hc]
 ·simp[hv]
end Go.Proofs.YtdjeacigeegklaaGreat
