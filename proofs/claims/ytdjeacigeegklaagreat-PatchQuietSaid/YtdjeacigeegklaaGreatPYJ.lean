/- Plain: the bits of a tree, by both texts. No condition but bK bn stand in each. -/
import Derived.Test.YtdjeacigeegklaaGreatPYI
namespace Go.Proofs.YtdjeacigeegklaaGreat
set_option linter.all false
open Go
def ug(r:Int):bP:=bP.mk r 3 r
def uh(h:aV):bP:=bP.mk h.bx 1 h.To
def gV(e:aC)(k:bP):Int×Bool:=xm e k.cm k.s9 k.to_
def o3(t:dY)(rs:List Int):List bP:=rs.map ug++t.Links.map uh
def orK(e:aC)(s:Int)(k:bP):Int:=aS .or .u64 s (uN (gV e k).1.toNat)
noncomputable def vj(e:aC)(t:dY)(rs:List Int):Int×Int:=
 if l8 e=0 then if ckT t=0 then
  bif !kg (λa b=>decide (a<b)) rs then(0,25)else bif rs.any (λr=>!decide (r∈nX t))then(0,8)else
  bif (o3 t rs).any (λk=>!(gV e k).2)then(0,4)else((o3 t rs).foldl (orK e) 0,0)
 else(0,ckT t)else(0,l8 e)
theorem abf{e:aC}(h:Ve e){k:bP}(hk:(gV e k).2=true):0≤(gV e k).1∧(gV e k).1<64:=by
 unfold gV xm at *
 cases hf:e.List.find? (λx=>decide (x.aK=k.cm)&&(decide (x.Kind=k.s9)&&decide (x.To=k.to_)))with
 |none=>rw[hf]at hk;cases hk
 |some a=>exact h.bit (List.mem_of_find?_eq_some hf)
theorem aeW{α β:Type}{L:List α}{B:Int→α→(Int→Option β)→Int→Option β}{K:Int→Option β}(fi:α→Int×Bool)(a:Option β)(g:Int→α→Int)(hB:∀j x Z s,x∈L→B j x Z s=bif !(fi x).2 then a else Z (g s x))(s:Int):
  bD L 0 B K s=bif L.any (λx=>!(fi x).2)then a else K (L.foldl g s):=by
 have key:∀(l:List α) (j:Nat) (s:Int),(∀x∈l,x∈L)→bD l j B K s=bif l.any (λx=>!(fi x).2)then a else K (l.foldl g s):=by
  intro l
  induction l with
  |nil=>intro j s _;rfl
  |cons x r ih=>
   intro j s h
   simp only[bD]
   rw[hB _ _ _ _ (h x (by simp)),ih (j+1) _ (λy hy=>h y (by simp[hy])),List.any_cons,List.foldl_cons]
   cases(fi x).2<;>rfl
 exact key L 0 s λ_ h=>h
theorem abg{e:aC}:∀(l:List bP) (acc:Int),B64 acc→(∀k∈l,0≤(gV e k).1∧(gV e k).1<64)→B64 (l.foldl (orK e) acc)∧∀i,tbi (l.foldl (orK e) acc) i=true↔tbi acc i=true∨∃k∈l,(gV e k).1=(i:Int)
 |[],acc,h,_=>⟨h,λi=>by simp⟩
 |a::l,acc,h,hb=>by
  have hb1:=hb a (by simp)
  obtain⟨h1,h2⟩:=abg l (orK e acc a) auB λx hx=>hb x (by simp[hx])
  refine⟨h1,λi=>?_⟩
  rw[List.foldl_cons,h2]
  unfold orK
  rw[anB h (adi (by omega)),sD (gV e a).1.toNat i (by omega),Bool.or_eq_true,decide_eq_true_eq]
  constructor
  ·rintro((h|h)|⟨x,hx,h3⟩)
   ·exact .inl h
   ·exact .inr ⟨a,by simp,by omega⟩
   ·exact .inr ⟨x,by simp[hx],h3⟩
  ·rintro(h|⟨x,hx,h3⟩)
   ·exact .inl (.inl h)
   ·rcases List.mem_cons.1 hx with rfl|hx
    ·exact .inl (.inr (by omega))
    ·exact .inr ⟨x,hx,h3⟩
theorem aiv(e:aC)(t:dY)(rs:List Int)(h1:e.List.length≤90000)(h2:t.Links.length≤90000)(h3:rs.length≤90000):mQ e t rs=some (vj e t rs):=by
 unfold mQ vj
 simp only[iy e (by omega),xo t (by omega),aM,ajF rs (by omega)]
 by_cases hv:l8 e=0
 ·by_cases hc:ckT t=0
  ·simp only[decide_true,Bool.not_true,cond_false,hv,hc,if_true]
   cases kg (λa b:Int=>decide (a<b)) rs
   ·rfl
   simp only[Bool.not_true,cond_false,uO t h2,aM]
   refine(gO (λr=>!decide (r∈nX t)) (some ((0:Int),(8:Int))) (λj x Z s=>by rw[acm,aM]) _ _ _).trans ?_
   cases rs.any (λr=>!decide (r∈nX t))
   ·simp only[cond_false]
    have step:∀(k:bP) (s:Int) (Z:Int→Option (Int×Int)),(bif !(gV e k).2 then some ((0:Int),(4:Int))else chk (decide (0≤IntKind.wrap .u64 (gV e k).1))<|Z (aS .or .u64 s (IntKind.wrap .u64 ((1:Int)*2 ^ min (IntKind.wrap .u64 (gV e k).1).toNat 64))))=bif !(gV e k).2 then some ((0:Int),(4:Int))else Z (orK e s k):=λk s Z=>by
     cases hf:(gV e k).2
     ·rfl
     ·obtain⟨b1,b2⟩:=abf (iX.1 hv) hf
      rw[wrap_u64 b1 (by omega),decide_eq_true b1,wD b1 b2];rfl
    have hfT:∀r k q,nk e r k q=xm e r k q:=λr k q=>by unfold nk;rw[if_pos hv]
    refine(aeW (λh:aV=>gV e (uh h)) (some ((0:Int),(4:Int))) (λs h=>orK e s (uh h)) (λj x Z s hx=>?_) _).trans ?_
    ·rw[vi e _ _ _ (by omega),aM,hfT];exact step (uh x) s Z
    have ea:(o3 t rs).any (λk=>!(gV e k).2)=(rs.any (λr=>!(gV e (ug r)).2)||t.Links.any (λh=>!(gV e (uh h)).2)):=by
     unfold o3;rw[List.any_append,List.any_map,List.any_map];rfl
    rw[ea]
    cases hl:t.Links.any (λh=>!(gV e (uh h)).2)
    ·simp only[cond_false,Bool.or_false]
     refine(aeW (λr:Int=>gV e (ug r)) (some ((0:Int),(4:Int))) (λs r=>orK e s (ug r)) (λj x Z s hx=>?_) _).trans ?_
     ·rw[vi e _ _ _ (by omega),aM,hfT];exact step (ug x) s Z
     cases hr:rs.any (λr=>!(gV e (ug r)).2)
     ·simp only[cond_false,Option.some.injEq,Prod.mk.injEq,and_true]
      have hR:∀k∈rs.map ug,0≤(gV e k).1∧(gV e k).1<64:=λk hk=>by
       obtain⟨r,hr2,rfl⟩:=List.mem_map.1 hk
       exact abf (iX.1 hv) (by have:=any_false.1 hr r hr2;simpa using this)
      have hH:∀k∈t.Links.map uh,0≤(gV e k).1∧(gV e k).1<64:=λk hk=>by
       obtain⟨r,hr2,rfl⟩:=List.mem_map.1 hk
       exact abf (iX.1 hv) (by have:=any_false.1 hl r hr2;simpa using this)
      have e1:rs.foldl (λs r=>orK e s (ug r)) (t.Links.foldl (λs h=>orK e s (uh h)) 0)=(t.Links.map uh++rs.map ug).foldl (orK e) 0:=by
       rw[List.foldl_append,List.foldl_map,List.foldl_map]
      rw[e1]
      obtain⟨a1,a2⟩:=abg (e:=e) (t.Links.map uh++rs.map ug) 0 yt λk hk=>(List.mem_append.1 hk).elim (hH k) (hR k)
      obtain⟨b1,b2⟩:=abg (e:=e) (o3 t rs) 0 yt λk hk=>(List.mem_append.1 hk).elim (hR k) (hH k)
      refine adh a1 b1 λi _=>?_
      rw[Bool.eq_iff_iff,a2,b2]
      unfold o3
      simp only[List.mem_append]
      constructor
      ·rintro(h|⟨k,h|h,hk⟩)
       ·exact .inl h
       ·exact .inr ⟨k,.inr h,hk⟩
       ·exact .inr ⟨k,.inl h,hk⟩
      ·rintro(h|⟨k,h|h,hk⟩)
       ·exact .inl h
       ·exact .inr ⟨k,.inr h,hk⟩
       ·exact .inr ⟨k,.inl h,hk⟩
     ·rfl
    ·simp
   ·rfl
  ·simp[hv,hc]
 ·simp[hv]
end Go.Proofs.YtdjeacigeegklaaGreat
