/- Several texts in one. No condition but those that stand in each. -/
import Derived.Test.YtdjeacigeegklaaGreatPM
namespace Go.Proofs.YtdjeacigeegklaaGreat
set_option linter.all false
open Go
abbrev Cst:=Int→Int→Option Int
def Pos(c:Cst):Prop:=∀x y k,c x y=some k→1≤k
def yX(c:Cst):Cst:=λx y=>c y x
variable {c:Cst}
theorem Pos.rev(h:Pos c):Pos (yX c):=λx y k hk=>h y x k hk
inductive Wk(c:Cst)(a:Int):Int→Int→Prop
 |nil:Wk c a a 0
 |snoc {x b m k:Int}:Wk c a x m→c x b=some k→Wk c a b (m+k)
variable {a b m:Int}
theorem Wk.ade(hc:Pos c)(h:Wk c a b m):0≤m:=by
 induction h with
 |nil=>omega
 |snoc _ hk ih=>have:=hc _ _ _ hk;omega
variable {x:Int}
theorem Wk.trans{n:Int}(h:Wk c a x m)(h':Wk c x b n):Wk c a b (m+n):=by
 induction h' with
 |nil=>simpa using h
 |snoc _ hk ih=>rw[←Int.add_assoc];exact .snoc ih hk
variable {k:Int}
theorem Wk.one(h:c a b=some k):Wk c a b k:=by have:=Wk.snoc (.nil:Wk c a a 0) h;simpa using this
theorem Wk.rev(h:Wk c a b m):Wk (yX c) b a m:=by
 induction h with
 |nil=>exact .nil
 |@snoc x b m k _ hk ih=>
  have h1:Wk (yX c) b x k:=.one hk
  have:=h1.trans ih
  rwa [Int.add_comm]at this
theorem Wk.anG(h:Wk (yX c) a b m):Wk c b a m:=h.rev
def IsD(c:Cst)(a b k:Int):Prop:=Wk c a b k∧∀m,Wk c a b m→k≤m
theorem IsD.uniq(h:IsD c a b k)(h':IsD c a b m):k=m:=by
 have:=h.2 _ h'.1;have:=h'.2 _ h.1;omega
theorem ajO(hc:Pos c)(h:Wk c a b m):∃k,IsD c a b k∧k≤m:=by
 have key:∀(n:Nat) (m:Int),m.toNat=n→Wk c a b m→∃k,IsD c a b k∧k≤m:=by
  intro n
  induction n using Nat.strongRecOn with
  |_ n ih=>
   intro m hn h
   by_cases hmin:∀m',Wk c a b m'→m≤m'
   ·exact⟨m,⟨h,hmin⟩,Int.le_refl _⟩
   ·have hmin:∃m',Wk c a b m'∧¬m≤m':=by
     refine Classical.byContradiction λhn=>hmin λm' h=>?_
     by_cases hle:m≤m'
     ·exact hle
     ·exact absurd ⟨m',h,hle⟩ hn
    obtain⟨m',h1,h2⟩:=hmin
    have h3:=h1.ade hc
    obtain⟨k,k1,k2⟩:=ih m'.toNat (by omega) m' rfl h1
    exact⟨k,k1,by omega⟩
 exact key _ m rfl h
open Classical in
noncomputable def dst(c:Cst)(a b:Int):Option Int:=if h:∃k,IsD c a b k then some (Classical.choose h)else none
theorem iV:dst c a b=some k↔IsD c a b k:=by
 unfold dst
 constructor
 ·intro h
  split at h
  ·rename_i hx
   cases h
   exact Classical.choose_spec hx
  ·cases h
 ·intro h
  rw[dif_pos ⟨k,h⟩]
  exact congrArg some ((Classical.choose_spec (⟨k,h⟩:∃k,IsD c a b k)).uniq h)
theorem ago(hc:Pos c):dst c a b=none↔∀m,¬Wk c a b m:=by
 constructor
 ·intro h m hm
  obtain⟨k,h1,_⟩:=ajO hc hm
  rw[iV.2 h1]at h;cases h
 ·intro h
  cases hd:dst c a b with
  |none=>rfl
  |some k=>exact absurd (iV.1 hd).1 (h k)
theorem auC(hc:Pos c)(h:Wk c a b m):∃k,dst c a b=some k∧k≤m:=by
 obtain⟨k,h1,h2⟩:=ajO hc h
 exact⟨k,iV.2 h1,h2⟩
theorem yY(hc:Pos c)(h:dst c a b=some k):0≤k:=(iV.1 h).1.ade hc
theorem ahD:IsD (yX c) a b k↔IsD c b a k:=
 ⟨λh=>⟨h.1.anG,λm hm=>h.2 m hm.rev⟩,λh=>⟨h.1.rev,λm hm=>h.2 m hm.anG⟩⟩
theorem ad6(a b:Int):dst (yX c) a b=dst c b a:=by
 cases h:dst c b a with
 |some k=>exact iV.2 (ahD.2 (iV.1 h))
 |none=>
  cases h':dst (yX c) a b with
  |none=>rfl
  |some k=>rw[iV.2 (ahD.1 (iV.1 h'))]at h;cases h
theorem al1(h:dst c a b=some k)(hne:a≠b):∃x w m,dst c a x=some m∧c x b=some w∧k=m+w:=by
 obtain⟨h1,h2⟩:=iV.1 h
 cases h1 with
 |nil=>exact absurd rfl hne
 |@snoc x b m w hx hw=>exact⟨x,w,m,iV.2 ⟨hx,λm' h'=>by have:=h2 _ (.snoc h' hw);omega⟩,hw,rfl⟩
theorem aeU(h:dst c a b=some k)(hne:a≠b):∃x w m,c a x=some w∧dst c x b=some m∧k=w+m:=by
 rw[←ad6]at h
 obtain⟨x,w,m,h1,h2,h3⟩:=al1 h (Ne.symm hne)
 rw[ad6]at h1
 exact⟨x,w,m,h2,h1,by omega⟩
def lkC(t:aa):Cst:=λx y=>if dR t x y then some (jJ t x y).1 else none
variable {t:aa}
theorem xg(hv:Vt t){y:Int}(h:dR t x y=true):1≤(jJ t x y).1∧(jJ t x y).1≤1000:=by
 obtain⟨l,h1,h2⟩:=jf.1 h
 have he:eM l x y=true:=by simp[eM];exact h2
 rw[jK hv h1 he]
 have:=hv.okl l h1
 simp only[uI,Bool.or_eq_false_iff,Bool.not_eq_false',xb,Bool.and_eq_true,decide_eq_true_eq]at this
 unfold iN
 by_cases hb:(decide (l.A=x)&&decide (l.B=y))=true
 ·simp only[hb,cond_true];omega
 ·simp only[Bool.not_eq_true]at hb;simp only[hb,cond_false];omega
theorem vk(hv:Vt t):Pos (lkC t):=λx y k h=>by
 unfold lkC at h
 split at h
 ·rename_i ha;cases h;exact(xg hv ha).1
 ·cases h
theorem iH{y:Int}:lkC t x y=some k↔dR t x y=true∧(jJ t x y).1=k:=by
 unfold lkC
 split
 ·rename_i h;simp[h]
 ·rename_i h;simp[h]
theorem wm(hv:Vt t){y:Int}(h:lkC t x y=some k):1≤k∧k≤1000:=by
 obtain⟨h1,rfl⟩:=iH.1 h;exact xg hv h1
theorem o7(hv:Vt t){y:Int}(h:lkC t x y=some k):x∈ids t∧y∈ids t:=by
 obtain⟨h1,_⟩:=iH.1 h;exact⟨nv hv (qb h1),nv hv h1⟩
theorem Wk.ids{t:aa}(hv:Vt t){a b m:Int}(h:Wk (lkC t) a b m)(ha:a∈ids t):b∈ids t:=by
 cases h with
 |nil=>exact ha
 |snoc _ hk=>exact(o7 hv hk).2
theorem axZ:(∃m,Wk (lkC t) a b m)↔Cn t [] a b:=by
 constructor
 ·rintro⟨m,h⟩
  induction h with
  |nil=>exact .refl (by simp)
  |snoc _ hk ih=>exact .step ih (iH.1 hk).1 (by simp)
 ·intro h
  induction h with
  |refl=>exact⟨0,.nil⟩
  |step _ h1 _ ih=>
   obtain⟨m,hm⟩:=ih
   exact⟨_,.snoc hm (iH.2 ⟨h1,rfl⟩)⟩
end Go.Proofs.YtdjeacigeegklaaGreat
namespace Go.Proofs.YtdjeacigeegklaaGreat
set_option linter.all false
open Go
def KN{α:Type}(l:List (Int×α)):Prop:=(l.map (·.1)).Nodup
variable {α:Type}{l:List (Int×α)}
theorem al2{n:Int}{v:α}(h:aK l n=some v):(n,v)∈l:=by
 induction l with
 |nil=>simp[aK]at h
 |cons p r ih=>
  rw[fm]at h
  split at h
  ·rename_i hp;cases h;subst hp;exact List.mem_cons_self
  ·exact List.mem_cons_of_mem _ (ih h)
theorem acm{n:Int}{v:α}(hk:KN l)(h:(n,v)∈l):aK l n=some v:=by
 induction l with
 |nil=>simp at h
 |cons p r ih=>
  simp only[KN,List.map_cons,List.nodup_cons]at hk
  rw[fm]
  rcases List.mem_cons.1 h with rfl|h
  ·rw[if_pos rfl]
  ·have:p.1≠n:=λe=>hk.1 (by rw[e];exact List.mem_map.2 ⟨_,h,rfl⟩)
   rw[if_neg this];exact ih hk.2 h
theorem mS{n:Int}:(aK l n).isSome=true↔n∈l.map (·.1):=by
 induction l with
 |nil=>simp[aK]
 |cons p r ih=>
  rw[fm]
  by_cases hp:p.1=n
  ·simp[hp]
  ·rw[if_neg hp,ih];simp[Ne.symm hp]
theorem al3{n m:Int}{v:α}:m∈(bU l n v).map (·.1)↔m=n∨m∈l.map (·.1):=by
 rw[←mS,←mS,fQ]
 by_cases h:m=n<;>simp[h]
theorem si{n:Int}{v:α}(hk:KN l):KN (bU l n v):=by
 induction l with
 |nil=>simp[bU,KN]
 |cons p r ih=>
  simp only[KN,List.map_cons,List.nodup_cons]at hk
  simp only[bU]
  split
  ·rename_i hp;subst hp;simp only[KN,List.map_cons,List.nodup_cons];exact hk
  ·rename_i hp
   simp only[KN,List.map_cons,List.nodup_cons]
   refine⟨λhm=>?_,ih hk.2⟩
   rcases al3.1 hm with h|h
   ·exact hp h
   ·exact hk.1 h
theorem acn{n:Int}(hk:KN l)(m:Int):aK (pg l n) m=if m=n then none else aK l m:=by
 induction l with
 |nil=>simp[pg,aK]
 |cons p r ih=>
  simp only[KN,List.map_cons,List.nodup_cons]at hk
  simp only[pg]
  by_cases hp:p.1=n
  ·rw[if_pos hp]
   by_cases hm:m=n
   ·rw[if_pos hm]
    cases hg:aK r m with
    |none=>rfl
    |some v=>exact absurd (mS.1 (by rw[hg];rfl)) (by rw[hm,←hp];exact hk.1)
   ·rw[if_neg hm,fm,if_neg (λe=>hm (by rw[←e,hp]))]
  ·rw[if_neg hp,fm,fm,ih hk.2]
   by_cases hm:p.1=m
   ·rw[if_pos hm,if_pos hm,if_neg (λe=>hp (by rw[hm,e]))]
   ·rw[if_neg hm,if_neg hm]
theorem aqI{n:Int}(hk:KN l):KN (pg l n):=by
 induction l with
 |nil=>exact hk
 |cons p r ih=>
  simp only[KN,List.map_cons,List.nodup_cons]at hk
  simp only[pg]
  split
  ·exact hk.2
  ·rename_i hp
   simp only[KN,List.map_cons,List.nodup_cons]
   refine⟨λhm=>hk.1 ?_,ih hk.2⟩
   have:=mS.2 hm
   rw[acn hk.2]at this
   split at this
   ·cases this
   ·exact mS.1 this
variable {V:List Int}
theorem KN.len(hk:KN l)(h:∀n v,aK l n=some v→n∈V):l.length≤V.length:=by
 have:=jW hk λx hx=>by
  obtain⟨v,hv⟩:=Option.isSome_iff_exists.1 (mS.2 hx)
  exact h x v hv
 simpa using this
theorem KN.all(hk:KN l)(hV:V.Nodup)(h:∀n v,aK l n=some v→n∈V)(he:V.length≤l.length){x:Int}(hx:x∈V):(aK l x).isSome=true:=by
 refine Classical.byContradiction λhn=>?_
 have h1:∀y∈l.map (·.1),y∈V.erase x:=λy hy=>by
  obtain⟨v,hv⟩:=Option.isSome_iff_exists.1 (mS.2 hy)
  refine(List.mem_erase_of_ne λe=>hn ?_).2 (h y v hv)
  rw[←e,hv];rfl
 have h2:=jW hk h1
 rw[List.length_map,List.length_erase_of_mem hx]at h2
 have:=List.length_pos_of_mem hx
 omega
def afu(m:List (Int×Int))(n v b:Int):Bool:=((decide (b=(0:Int)))||((decide (v<((aK m b).getD (0:Int))))||((decide (v=((aK m b).getD (0:Int))))&&(decide (n<b)))))
def adf(m:List (Int×Int)):Int→Int→Int→Option Int:=λn v b=>bif afu m n v b then some n else some b
theorem aeV{m:List (Int×Int)}(h0:∀n v,aK m n=some v→n≠0):∀(l:List (Int×Int)) (s:Int),(∀p∈l,aK m p.1=some p.2)→(s=0∨∃k,aK m s=some k)→
  ∃b,jC (adf m) l s=some b∧(b=s∨∃v,(b,v)∈l)∧(l≠[]→b≠0)∧(s≠0→b≠0)∧∀n v,((n,v)∈l∨(n=s∧s≠0∧aK m s=some v))→∀k,aK m b=some k→k<v∨(k=v∧b≤n)
 |[],s,_,hs=>⟨s,rfl,.inl rfl,by simp,id,λn v h k hk=>by
   rcases h with h|⟨rfl,_,h⟩
   ·simp at h
   ·rw[hk]at h;cases h;exact .inr ⟨rfl,Int.le_refl _⟩⟩
 |(n,v)::r,s,hl,hs=>by
  have hn:=hl (n,v) (by simp)
  have hnz:=h0 n v hn
  have step:∃s',adf m n v s=some s'∧(s'=n∨s'=s)∧s'≠0∧(∀k,aK m s'=some k→k<v∨(k=v∧s'≤n))∧(s≠0→∀w,aK m s=some w→∀k,aK m s'=some k→k<w∨(k=w∧s'≤s)):=by
   unfold adf
   cases hb:afu m n v s with
   |true=>
    refine⟨n,rfl,.inl rfl,hnz,λk hk=>by rw[hn]at hk;cases hk;exact .inr ⟨rfl,Int.le_refl _⟩,λhs0 w hw k hk=>?_⟩
    rw[hn]at hk;cases hk
    simp only[afu,hw,Option.getD_some,Bool.or_eq_true,Bool.and_eq_true,decide_eq_true_eq]at hb
    rcases hb with hb|hb|⟨hb,hb2⟩
    ·exact absurd hb hs0
    ·exact .inl hb
    ·exact .inr ⟨hb,by omega⟩
   |false=>
    simp only[afu,Bool.or_eq_false_iff,Bool.and_eq_false_iff,decide_eq_false_iff_not]at hb
    obtain⟨b1,b2,b3⟩:=hb
    refine⟨s,rfl,.inr rfl,b1,λk hk=>?_,λ_ w hw k hk=>by rw[hw]at hk;cases hk;exact .inr ⟨rfl,Int.le_refl _⟩⟩
    rw[hk]at b2 b3
    simp only[Option.getD_some]at b2 b3
    by_cases hkv:k=v
    ·refine .inr ⟨hkv,?_⟩
     rcases b3 with b3|b3
     ·exact absurd hkv.symm b3
     ·omega
    ·exact .inl (by omega)
  obtain⟨s',e1,e2,e3,e4,e5⟩:=step
  have hs':s'=0∨∃k,aK m s'=some k:=by
   rcases e2 with rfl|rfl
   ·exact .inr ⟨v,hn⟩
   ·exact hs
  obtain⟨b,q1,q2,q3,q4,q5⟩:=aeV h0 r s' (λp hp=>hl p (by simp[hp])) hs'
  refine⟨b,by simp only[jC,e1];exact q1,?_,λ_=>q4 e3,λ_=>q4 e3,λn' v' h k hk=>?_⟩
  ·rcases q2 with rfl|⟨w,hw⟩
   ·rcases e2 with rfl|rfl
    ·exact .inr ⟨v,by simp⟩
    ·exact .inl rfl
   ·exact .inr ⟨w,by simp[hw]⟩
  ·
   obtain⟨ks,hks⟩:=hs'.resolve_left e3
   have hbs:=q5 s' ks (.inr ⟨rfl,e3,hks⟩) k hk
   rcases h with h|⟨rfl,hn0,h⟩
   ·rcases List.mem_cons.1 h with h|h
    ·simp only[Prod.mk.injEq]at h
     obtain⟨rfl,rfl⟩:=h
     have:=e4 ks hks
     omega
    ·exact q5 n' v' (.inl h) k hk
   ·have:=e5 hn0 v' h ks hks
    omega
theorem al4{m:List (Int×Int)}(hK:KN m)(h0:∀n v,aK m n=some v→n≠0)(hne:m≠[]):
  ∃b k,aK m b=some k∧(∀n v,aK m n=some v→k<v∨(k=v∧b≤n))∧um m (adf m) 0=some b:=by
 have all:∀l':List (Int×Int),l'.Perm m→∃b k,jC (adf m) l' 0=some b∧aK m b=some k∧∀n v,aK m n=some v→k<v∨(k=v∧b≤n):=λl' hl=>by
  obtain⟨b,q1,q2,q3,q4,q5⟩:=aeV h0 l' 0 (λp hp=>acm hK (hl.mem_iff.1 hp)) (.inl rfl)
  have hb:=q3 λe=>hne (by rw[e]at hl;exact hl.symm.eq_nil)
  rcases q2 with rfl|⟨k,hk⟩
  ·exact absurd rfl hb
  ·have hg:=acm hK (hl.mem_iff.1 hk)
   exact⟨b,k,q1,hg,λn v hv=>q5 n v (.inl (hl.mem_iff.2 (al2 hv))) k hg⟩
 obtain⟨b,k,h1,h2,h3⟩:=all m (List.Perm.refl m)
 refine⟨b,k,h2,h3,aeK λl' hl=>?_⟩
 obtain⟨b',k',g1,g2,g3⟩:=all l' hl
 have e1:=h3 b' k' g2
 have e2:=g3 b k h2
 have:b'=b:=by omega
 rw[g1,this]
structure Gph(links:List (Int×List aG))(V:List Int)(c:Cst):Prop where
 keys:∀x,(aK links x).isSome=true↔x∈V
 len:links.length=V.length
 nd:V.Nodup
 small:V.length≤24
 nz:∀x∈V,x≠0
 row:∀x y k,(∃s∈(aK links x).getD [],s.to_=y∧s.gn=k)↔c x y=some k
 cs:∀x y k,c x y=some k→1≤k∧k≤1000
 inV:∀x y k,c x y=some k→y∈V
structure Dj(V:List Int)(c:Cst)(a:Int)(out opn:List (Int×Int)):Prop where
 ko:KN out
 kp:KN opn
 oV:∀x k,aK out x=some k→x∈V∧dst c a x=some k∧k≤1000*(out.length:Int)
 pV:∀x k,aK opn x=some k→x∈V∧aK out x=none∧Wk c a x k∧k≤1000*(out.length:Int)
 cl:∀x k y w,aK out x=some k→c x y=some w→(aK out y).isSome=true∨∃m,aK opn y=some m∧m≤k+w
 st:(aK out a).isSome=true∨∃k,aK opn a=some k∧k≤0
variable {c:Cst}{links:List (Int×List aG)}
theorem Gph.pos(h:Gph links V c):Pos c:=λx y k hk=>(h.cs x y k hk).1
variable {a:Int}{opn out:List (Int×Int)}
theorem Dj.front(hc:Pos c)(h:Dj V c a out opn){z m:Int}(hw:Wk c a z m):(aK out z).isSome=true∨∃y k,aK opn y=some k∧k≤m:=by
 induction hw with
 |nil=>
  rcases h.st with q|⟨k,q1,q2⟩
  ·exact .inl q
  ·exact .inr ⟨a,k,q1,q2⟩
 |@snoc x b m k hx hk ih=>
  have:=hc _ _ _ hk
  rcases ih with q|⟨y,k',q1,q2⟩
  ·obtain⟨d,hd⟩:=Option.isSome_iff_exists.1 q
   have hle:=(iV.1 (h.oV x d hd).2.1).2 _ hx
   rcases h.cl x d b k hd hk with q|⟨m',q1,q2⟩
   ·exact .inl q
   ·exact .inr ⟨b,m',q1,by omega⟩
  ·exact .inr ⟨y,k',q1,by omega⟩
theorem Dj.done(hc:Pos c)(h:Dj V c a out opn)(hin:∀z m,Wk c a z m→(aK out z).isSome=true)(x:Int):aK out x=dst c a x:=by
 cases hd:dst c a x with
 |some k=>
  obtain⟨k',hk'⟩:=Option.isSome_iff_exists.1 (hin x k (iV.1 hd).1)
  have:=(h.oV x k' hk').2.1
  rw[hd]at this;cases this;exact hk'
 |none=>
  cases ho:aK out x with
  |none=>rfl
  |some k=>have:=(h.oV x k ho).2.1;rw[hd]at this;cases this
theorem wq{n:Int}(h0 : -1000000≤n)(h1:n≤4000000000):w64 n=n:=by unfold w64;rw[IntKind.wrap_i64];omega
theorem auD(h:Gph links V c)(ha:a∈V):
  Ok (fW links a) (λl=>KN l∧(∀x,aK l x=dst c a x)∧∀x k,dst c a x=some k→0≤k∧k≤24000):=by
 have hc:=h.pos
 have fin:∀out opn,Dj V c a out opn→(∀z m,Wk c a z m→(aK out z).isSome=true)→KN out∧(∀x,aK out x=dst c a x)∧∀x k,dst c a x=some k→0≤k∧k≤24000:=λout opn hD hin=>by
  have hd:=hD.done hc hin
  refine⟨hD.ko,hd,λx k hk=>⟨yY hc hk,?_⟩⟩
  rw[←hd x]at hk
  have h1:=(hD.oV x k hk).2.2
  have h2:=hD.ko.len (V:=V) λn v hv=>(hD.oV n v hv).1
  have:=h.small
  omega
 unfold fW
 rw[show(aK links a).isSome=true from(h.keys a).2 ha]
 simp only[Bool.not_true,cond_false]
 refine Ok.jn (λs=>KN s.1∧(∀x,aK s.1 x=dst c a x)∧∀x k,dst c a x=some k→0≤k∧k≤24000) (λs hs=>.s hs) λJ hJ=>?_
 refine Ok.whl (λs=>Dj V c a s.1 s.2) (λs=>V.length+1-s.1.length) ?_ (by have:=h.small;omega) ?_
 ·refine⟨List.nodup_nil,by simp[KN,bU],λx k hk=>by simp[aK]at hk,λx k hk=>?_,λx k y w hk=>by simp[aK]at hk,.inr ⟨0,by rw[fQ,if_pos rfl],Int.le_refl _⟩⟩
  rw[fQ]at hk
  split at hk
  ·rename_i e;subst e;cases hk;exact⟨ha,rfl,.nil,by simp⟩
  ·simp[aK]at hk
 rintro⟨out,opn⟩ Z hD hZ
 simp only at hD hZ ⊢
 refine Ok.cs (λh1=>?_) λh1=>?_
 ·have hne:opn≠[]:=λe=>by simp[e]at h1
  have h0:∀n v,aK opn n=some v→n≠0:=λn v hv=>h.nz n (hD.pV n v hv).1
  obtain⟨b,k,hb,hmin,hpk⟩:=al4 hD.kp h0 hne
  refine Ok.bnd (P:=λx=>x=b) ⟨b,hpk,rfl⟩ λx hx=>?_
  subst hx
  simp only[hb,Option.getD_some]
  obtain⟨bV,bo,bw,bk⟩:=hD.pV x k hb
  have bd:dst c a x=some k:=iV.2 ⟨bw,λm hm=>by
   rcases hD.front hc hm with q|⟨y,k',q1,q2⟩
   ·rw[bo]at q;cases q
   ·have:=hmin y k' q1;omega⟩
  have hlen:(bU out x k).length=out.length+1:=al0 bo
  have ko2:KN (bU out x k):=si hD.ko
  have k0:=bw.ade hc
  have oV2:∀y d,aK (bU out x k) y=some d→y∈V∧dst c a y=some d∧d≤1000*((bU out x k).length:Int):=λy d hy=>by
   rw[fQ]at hy
   rw[hlen]
   split at hy
   ·rename_i e;subst e;cases hy;exact⟨bV,bd,by omega⟩
   ·obtain⟨q1,q2,q3⟩:=hD.oV y d hy
    exact⟨q1,q2,by omega⟩
  have olen:(bU out x k).length≤V.length:=ko2.len λn v hv=>(oV2 n v hv).1
  have outs:∀y,(aK out y).isSome=true→(aK (bU out x k) y).isSome=true:=λy hy=>by
   rw[fQ];split
   ·rfl
   ·exact hy
  refine Ok.cs (λh2=>hJ _ ?_) λh2=>?_
  ·
   have h2:(bU out x k).length=links.length:=by have:=of_decide_eq_true h2;omega
   have hin:∀z∈V,(aK (bU out x k) z).isSome=true:=λz hz=>ko2.all h.nd (λn v hv=>(oV2 n v hv).1) (by rw[h2,h.len];exact Nat.le_refl _) hz
   have wV:∀z m,Wk c a z m→z∈V:=λz m hw=>by
    cases hw with
    |nil=>exact ha
    |snoc _ hk=>exact h.inV _ _ _ hk
   refine fin _ [] ⟨ko2,List.nodup_nil,oV2,λy d hy=>by simp[aK]at hy,λy d z w hy hw=>.inl (hin z (h.inV _ _ _ hw)),.inl (hin a ha)⟩ λz m hw=>hin z (wV z m hw)
  ·refine Ok.yW (L:=(aK links x).getD []) (λp m=>KN m∧(∀y d,aK m y=some d→y∈V∧aK (bU out x k) y=none∧Wk c a y d∧d≤1000*((bU out x k).length:Int))∧(∀y d,y≠x→aK opn y=some d→∃d',aK m y=some d'∧d'≤d)∧
    ∀s∈p,(aK (bU out x k) s.to_).isSome=true∨∃d',aK m s.to_=some d'∧d'≤k+s.gn) ?_ _ ?_ ?_
   ·rintro p s r m Z2 hL ⟨i1,i2,i3,i4⟩ hZ2
    have hs:s∈(aK links x).getD []:=by rw[hL];simp
    have hcs:=(h.row x s.to_ s.gn).1 ⟨s,hs,rfl,rfl⟩
    obtain⟨c1,c2⟩:=h.cs _ _ _ hcs
    have hw:w64 (k+s.gn)=k+s.gn:=wq (by omega) (by have:=h.small;omega)
    refine Ok.jn (λm'=>KN m'∧(∀y d,aK m' y=some d→y∈V∧aK (bU out x k) y=none∧Wk c a y d∧d≤1000*((bU out x k).length:Int))∧(∀y d,y≠x→aK opn y=some d→∃d',aK m' y=some d'∧d'≤d)∧
     ∀s'∈p++[s],(aK (bU out x k) s'.to_).isSome=true∨∃d',aK m' s'.to_=some d'∧d'≤k+s'.gn) (λm' hm'=>hZ2 m' hm') λJ2 hJ2=>?_
    refine Ok.cs (λg1=>hJ2 m ⟨i1,i2,i3,λs' hs'=>?_⟩) λg1=>Ok.cs (λg2=>hJ2 _ ?_) λg2=>hJ2 m ⟨i1,i2,i3,λs' hs'=>?_⟩
    ·rcases List.mem_append.1 hs' with hs'|hs'
     ·exact i4 s' hs'
     ·rw[List.mem_singleton.1 hs'];exact .inl g1
    ·
     rw[hw]
     rw[hw]at g2
     refine⟨si i1,λy d hy=>?_,λy d hyx hy=>?_,λs' hs'=>?_⟩
     ·rw[fQ]at hy
      split at hy
      ·rename_i e;subst e;cases hy
       refine⟨h.inV _ _ _ hcs,by simpa using g1,.snoc bw hcs,by rw[hlen];omega⟩
      ·exact i2 y d hy
     ·obtain⟨d',q1,q2⟩:=i3 y d hyx hy
      rw[fQ]
      by_cases e:y=s.to_
      ·rw[if_pos e]
       refine⟨_,rfl,?_⟩
       subst e
       rw[q1]at g2
       simp at g2
       omega
      ·rw[if_neg e];exact⟨d',q1,q2⟩
     ·rw[fQ m]
      by_cases e:s'.to_=s.to_
      ·rcases List.mem_append.1 hs' with hs'|hs'
       ·rcases i4 s' hs' with q|⟨d',q1,q2⟩
        ·exact .inl q
        ·right
         rw[if_pos e]
         refine⟨_,rfl,?_⟩
         rw[e]at q1
         rw[q1]at g2
         simp at g2
         omega
       ·rw[List.mem_singleton.1 hs',if_pos rfl];exact .inr ⟨_,rfl,Int.le_refl _⟩
      ·rw[if_neg e]
       rcases List.mem_append.1 hs' with hs'|hs'
       ·exact i4 s' hs'
       ·exact absurd (by rw[List.mem_singleton.1 hs']) e
    ·rcases List.mem_append.1 hs' with hs'|hs'
     ·exact i4 s' hs'
     ·rw[List.mem_singleton.1 hs']
      right
      rw[hw]at g2
      simp only[Bool.or_eq_false_iff,Bool.not_eq_false',decide_eq_false_iff_not]at g2
      obtain⟨d',hd'⟩:=Option.isSome_iff_exists.1 g2.1
      refine⟨d',hd',?_⟩
      have:=g2.2
      rw[hd']at this
      simp at this
      omega
   ·refine⟨aqI hD.kp,λy d hy=>?_,λy d hyx hy=>⟨d,by rw[acn hD.kp,if_neg hyx];exact hy,Int.le_refl _⟩,λs hs=>by simp at hs⟩
    rw[acn hD.kp]at hy
    split at hy
    ·cases hy
    ·rename_i e
     obtain⟨q1,q2,q3,q4⟩:=hD.pV y d hy
     exact⟨q1,by rw[fQ,if_neg e];exact q2,q3,by rw[hlen];omega⟩
   ·rintro m ⟨i1,i2,i3,i4⟩
    refine hZ _ ⟨ko2,i1,oV2,i2,λy d z w hy hw=>?_,?_⟩ (by simp only[hlen];omega)
    ·rw[fQ]at hy
     split at hy
     ·rename_i e;subst e;cases hy
      obtain⟨s,hs,rfl,rfl⟩:=(h.row _ _ _).2 hw
      exact i4 s hs
     ·rcases hD.cl y d z w hy hw with q|⟨m',q1,q2⟩
      ·exact .inl (outs z q)
      ·by_cases e:z=x
       ·left;rw[fQ,if_pos e];rfl
       ·obtain⟨d',r1,r2⟩:=i3 z m' e q1
        exact .inr ⟨d',r1,by omega⟩
    ·rcases hD.st with q|⟨k',q1,q2⟩
     ·exact .inl (outs a q)
     ·by_cases e:a=x
      ·left;rw[fQ,if_pos e];rfl
      ·obtain⟨d',r1,r2⟩:=i3 a k' e q1
       exact .inr ⟨d',r1,by omega⟩
 ·
  have he:opn=[]:=by
   have:=of_decide_eq_false h1
   exact List.eq_nil_of_length_eq_zero (by omega)
  subst he
  refine hJ _ (fin _ _ hD λz m hw=>?_)
  rcases hD.front hc hw with q|⟨y,k,q,_⟩
  ·exact q
  ·simp[aK]at q
theorem aqJ(ha:(aK links a).isSome=false):fW links a=some []:=by
 unfold fW
 rw[ha];rfl
end Go.Proofs.YtdjeacigeegklaaGreat
namespace Go.Proofs.YtdjeacigeegklaaGreat
set_option linter.all false
open Go
theorem abH{α:Type}{cf:α→α→Int}(ht:∀a b c,cf a b<0→cf b c<0→cf a c<0):∀{l:List α},(l.Pairwise λa b=>cf a b<0∨cf b a<0)→(qQ cf l).Pairwise λa b=>cf a b<0
 |[],_=>List.Pairwise.nil
 |x::r,h=>by
  rw[List.pairwise_cons]at h
  have ih:=abH ht h.2
  have hx:∀y∈qQ cf r,cf x y<0∨cf y x<0:=λy hy=>h.1 y ((uc cf r).mem_iff.1 hy)
  simp only[qQ]
  generalize qQ cf r=m at ih hx
  clear h
  induction m with
  |nil=>simp[adI]
  |cons y m ih2=>
   rw[List.pairwise_cons]at ih
   simp only[adI]
   split
   ·rename_i hyx
    rw[List.pairwise_cons]
    refine⟨λz hz=>?_,ih2 ih.2 λz hz=>hx z (by simp[hz])⟩
    rcases List.mem_cons.1 ((zT cf x m).mem_iff.1 hz)with rfl|hz
    ·exact hyx
    ·exact ih.1 z hz
   ·rename_i hyx
    have hxy:=(hx y (by simp)).resolve_right hyx
    rw[List.pairwise_cons]
    refine⟨λz hz=>?_,List.pairwise_cons.2 ih⟩
    rcases List.mem_cons.1 hz with rfl|hz
    ·exact hxy
    ·exact ht _ _ _ hxy (ih.1 z hz)
theorem aeW{α:Type}{cf:α→α→Int}:∀{l:List α},(l.Pairwise λa b=>cf a b<0)→abY cf l=true
 |[],_=>rfl
 |[x],_=>rfl
 |a::b::r,h=>by
  rw[List.pairwise_cons]at h
  simp only[abY,Bool.and_eq_true,decide_eq_true_eq]
  exact⟨h.1 b (by simp),aeW h.2⟩
theorem aiJ{α:Type}(f:α→Int){a b:List α}(ha:a.Pairwise λx y=>f x<f y)(hb:b.Pairwise λx y=>f x<f y)(h:∀x,x∈a↔x∈b):a=b:=by
 induction a generalizing b with
 |nil=>
  cases b with
  |nil=>rfl
  |cons y b=>exact absurd ((h y).2 (by simp)) (by simp)
 |cons x a ih=>
  cases b with
  |nil=>exact absurd ((h x).1 (by simp)) (by simp)
  |cons y b=>
   rw[List.pairwise_cons]at ha hb
   have hxy:x=y:=by
    have h1:=(h x).1 (by simp)
    have h2:=(h y).2 (by simp)
    rw[List.mem_cons]at h1 h2
    rcases h1 with h1|h1
    ·exact h1
    ·rcases h2 with h2|h2
     ·exact h2.symm
     ·have:=hb.1 _ h1;have:=ha.1 _ h2;omega
   subst hxy
   congr 1
   refine ih ha.2 hb.2 λz=>?_
   have:=h z
   simp only[List.mem_cons]at this
   constructor
   ·intro hz
    rcases this.1 (.inr hz)with q|q
    ·subst q;have:=ha.1 _ hz;omega
    ·exact q
   ·intro hz
    rcases this.2 (.inr hz)with q|q
    ·subst q;have:=hb.1 _ hz;omega
    ·exact q
theorem KN.ext{α:Type}:∀{l m:List (Int×α)},KN l→l.map (·.1)=m.map (·.1)→(∀x,aK l x=aK m x)→l=m
 |[],m,_,hk,_=>by
  cases m with
  |nil=>rfl
  |cons q m=>simp at hk
 |(n,v)::l,[],_,hk,_=>by simp at hk
 |(n,v)::l,(n',v')::m,hn,hk,h=>by
  simp only[List.map_cons,List.cons.injEq]at hk
  obtain⟨rfl,hk⟩:=hk
  simp only[KN,List.map_cons,List.nodup_cons]at hn
  have h1:=h n
  rw[fm,fm,if_pos rfl,if_pos rfl]at h1
  cases h1
  congr 1
  refine KN.ext hn.2 hk λx=>?_
  have h2:=h x
  rw[fm,fm]at h2
  by_cases hx:n=x
  ·subst hx
   have e1:aK l n=none:=by
    cases hg:aK l n with
    |none=>rfl
    |some a=>exact absurd (mS.1 (by rw[hg];rfl)) hn.1
   have e2:aK m n=none:=by
    cases hg:aK m n with
    |none=>rfl
    |some a=>exact absurd (by rw[hk];exact mS.1 (by rw[hg];rfl)) hn.1
   rw[e1,e2]
  ·rwa [if_neg hx,if_neg hx]at h2
def dw(x:Int)(l:aW):Option aG:=if l.A=x then some ⟨l.B,l.jh⟩else if l.B=x then some ⟨l.A,l.ji⟩else none
def inS(x:Int)(l:aW):Option aG:=if l.B=x then some ⟨l.A,l.jh⟩else if l.A=x then some ⟨l.B,l.ji⟩else none
variable {t:aa}
theorem agp(hv:Vt t)(x y k:Int):(∃s∈t.Links.filterMap (dw x),s.to_=y∧s.gn=k)↔lkC t x y=some k:=by
 rw[iH]
 constructor
 ·rintro⟨s,hs,rfl,rfl⟩
  obtain⟨l,hl,he⟩:=List.mem_filterMap.1 hs
  have hlt:=hv.lt l hl
  unfold dw at he
  split at he
  ·rename_i hA;cases he
   have h1:eM l x l.B=true:=by simp[eM,hA]
   refine⟨jf.2 ⟨l,hl,.inl ⟨hA,rfl⟩⟩,?_⟩
   rw[jK hv hl h1];simp[iN,hA]
  ·split at he
   ·rename_i hA hB;cases he
    have h1:eM l x l.A=true:=by simp[eM,hB]
    refine⟨jf.2 ⟨l,hl,.inr ⟨hB,rfl⟩⟩,?_⟩
    rw[jK hv hl h1];simp[iN,hA]
   ·cases he
 ·rintro⟨h1,rfl⟩
  obtain⟨l,hl,he⟩:=jf.1 h1
  have hlt:=hv.lt l hl
  rcases he with⟨rfl,rfl⟩|⟨rfl,rfl⟩
  ·refine⟨⟨l.B,l.jh⟩,List.mem_filterMap.2 ⟨l,hl,by simp[dw]⟩,rfl,?_⟩
   rw[jK hv hl (by simp[eM])];simp[iN]
  ·refine⟨⟨l.A,l.ji⟩,List.mem_filterMap.2 ⟨l,hl,by have:l.A≠l.B:=by omega
                                                   simp[dw,this]⟩,rfl,?_⟩
   have:l.A≠l.B:=by omega
   rw[jK hv hl (by simp[eM])];simp[iN,this]
theorem aqK(hv:Vt t)(x y k:Int):(∃s∈t.Links.filterMap (inS x),s.to_=y∧s.gn=k)↔yX (lkC t) x y=some k:=by
 show _↔lkC t y x=some k
 rw[iH]
 constructor
 ·rintro⟨s,hs,rfl,rfl⟩
  obtain⟨l,hl,he⟩:=List.mem_filterMap.1 hs
  have hlt:=hv.lt l hl
  unfold inS at he
  split at he
  ·rename_i hB;cases he
   have h1:eM l l.A x=true:=by simp[eM,hB]
   refine⟨jf.2 ⟨l,hl,.inl ⟨rfl,hB⟩⟩,?_⟩
   rw[jK hv hl h1];simp[iN,hB]
  ·split at he
   ·rename_i hB hA;cases he
    have h1:eM l l.B x=true:=by simp[eM,hA]
    refine⟨jf.2 ⟨l,hl,.inr ⟨rfl,hA⟩⟩,?_⟩
    have:¬l.A=l.B:=by omega
    rw[jK hv hl h1];simp[iN,this]
   ·cases he
 ·rintro⟨h1,rfl⟩
  obtain⟨l,hl,he⟩:=jf.1 h1
  have hlt:=hv.lt l hl
  rcases he with⟨rfl,rfl⟩|⟨rfl,rfl⟩
  ·refine⟨⟨l.A,l.jh⟩,List.mem_filterMap.2 ⟨l,hl,by simp[inS]⟩,rfl,?_⟩
   rw[jK hv hl (by simp[eM])];simp[iN]
  ·refine⟨⟨l.B,l.ji⟩,List.mem_filterMap.2 ⟨l,hl,by have:l.B≠l.A:=by omega
                                                   simp[inS,this]⟩,rfl,?_⟩
   have:l.A≠l.B:=by omega
   rw[jK hv hl (by simp[eM])];simp[iN,this]
def xK(t:aa)(x:Int):List aG:=(lS t x).map λy=>⟨y,(jJ t x y).1⟩
theorem yZ(hv:Vt t){x:Int}{s:aG}:s∈xK t x↔lkC t x s.to_=some s.gn:=by
 rw[iH]
 simp only[xK,List.mem_map,jV hv]
 constructor
 ·rintro⟨y,h,rfl⟩;exact⟨h,rfl⟩
 ·rintro⟨h1,h2⟩;exact⟨s.to_,h1,by rw[h2]⟩
theorem al5(hv:Vt t)(x:Int):(xK t x).Pairwise λa b=>a.to_<b.to_:=List.pairwise_map.2 (yV hv x)
abbrev xL:aG→aG→Int:=mK [λx:aG=>x.to_]
theorem ad7(a b:aG):xL a b<0↔a.to_<b.to_:=by rw[xL,wT];simp[mK]
theorem aqM(hv:Vt t)(x:Int):(t.Links.filterMap (dw x)).Pairwise λa b=>xL a b<0∨xL b a<0:=by
 have hnd:=xJ hv x
 have he:t.Links.filterMap (jL x)=(t.Links.filterMap (dw x)).map (·.to_):=by
  rw[List.map_filterMap]
  congr 1
  funext l
  unfold jL dw
  by_cases h1:l.A=x
  ·rw[if_pos h1.symm,if_pos h1];rfl
  ·rw[if_neg (λe=>h1 e.symm),if_neg h1]
   by_cases h2:l.B=x
   ·rw[if_pos h2.symm,if_pos h2];rfl
   ·rw[if_neg (λe=>h2 e.symm),if_neg h2];rfl
 rw[he]at hnd
 refine(List.pairwise_map.1 hnd).imp λ{a b} hab=>?_
 rw[ad7,ad7]
 omega
theorem agq(hv:Vt t)(x:Int):sP xL (t.Links.filterMap (dw x))=some (xK t x):=by
 have h1:=abH (uV _) (aqM hv x)
 have e:qQ xL (t.Links.filterMap (dw x))=xK t x:=by
  refine aiJ (·.to_) (h1.imp λ{a b} h=>(ad7 a b).1 h) (al5 hv x) λs=>?_
  rw[(uc _ _).mem_iff,yZ hv]
  constructor
  ·intro hs;exact(agp hv x s.to_ s.gn).1 ⟨s,hs,rfl,rfl⟩
  ·intro hs
   obtain⟨s',h2,h3,h4⟩:=(agp hv x s.to_ s.gn).2 hs
   obtain⟨a,b⟩:=s;obtain⟨a',b'⟩:=s'
   simp only at h3 h4;subst h3 h4;exact h2
 have hl:(t.Links.filterMap (dw x)).length≤60:=Nat.le_trans (List.length_filterMap_le _ _) hv.nl
 have:(decide ((t.Links.filterMap (dw x)).length<4611686018427387904))=true:=by simp;omega
 unfold sP
 rw[aeW h1,this,e];rfl
theorem aeX{srt:List aG→List aG}:∀(l s:List (Int×List aG)),KN l→(∀p∈l,∃row,aK s p.1=some row∧sP xL row=some (srt row))→
  ∃s',jC (λ(n_1:Int) (_:List aG) (m_5:List (Int×List aG))=>chk (aK m_5 n_1).isSome (bnd (sP xL ((aK m_5 n_1).getD [])) λ(l_5:List aG)=>some (bU m_5 n_1 l_5))) l s=some s'∧
   s'.map (·.1)=s.map (·.1)∧∀x,aK s' x=if x∈l.map (·.1)then(aK s x).map srt else aK s x
 |[],s,_,_=>⟨s,rfl,rfl,λx=>by simp⟩
 |(n,v)::l,s,hk,h=>by
  simp only[KN,List.map_cons,List.nodup_cons]at hk
  obtain⟨row,h1,h2⟩:=h (n,v) (by simp)
  obtain⟨s',q1,q2,q3⟩:=aeX (srt:=srt) l (bU s n (srt row)) hk.2 λp hp=>by
   obtain⟨r',h3,h4⟩:=h p (by simp[hp])
   have:p.1≠n:=λe=>hk.1 (by rw[←e];exact List.mem_map.2 ⟨p,hp,rfl⟩)
   exact⟨r',by rw[fQ,if_neg this];exact h3,h4⟩
  refine⟨s',?_,q2.trans (z7 _ (by rw[h1];rfl)),λx=>?_⟩
  ·simp only[jC,h1,Option.isSome_some,Option.getD_some,h2]
   exact q1
  ·rw[q3,fQ]
   simp only[List.map_cons,List.mem_cons]
   by_cases hx:x=n
   ·subst hx
    rw[if_neg hk.1,if_pos rfl,if_pos (.inl rfl),h1];rfl
   ·rw[if_neg hx]
    by_cases hm:x∈l.map (·.1)
    ·rw[if_pos hm,if_pos (.inr hm)]
    ·rw[if_neg hm,if_neg (λe=>e.elim hx hm)]
structure RdT(t:aa)(g:fT):Prop where
 fw:Gph g.nP (ids t) (lkC t)
 bw:Gph g.in_ (ids t) (yX (lkC t))
 row:∀x∈ids t,aK g.nP x=some (xK t x)
theorem ajP(hv:Vt t){links:List (Int×List aG)}{c:Cst}{f:Int→List aG}(hk:KN links)(hg:∀x,aK links x=if x∈ids t then some (f x)else none)
  (hr:∀x y k,(∃s∈f x,s.to_=y∧s.gn=k)↔c x y=some k) (hc:∀x y k,c x y=some k→(1≤k∧k≤1000)∧x∈ids t∧y∈ids t):Gph links (ids t) c where
 keys:=λx=>by rw[hg];by_cases h:x∈ids t<;>simp[h]
 len:=by
  have hn:(ids t).Nodup:=(ye hv).imp λh=>Int.ne_of_lt h
  have h1:=hk.len (V:=ids t) λn v h=>by
   rw[hg]at h
   split at h
   ·assumption
   ·cases h
  have h2:=jW hn (b:=links.map (·.1)) λx hx=>mS.1 (by rw[hg,if_pos hx];rfl)
  rw[List.length_map]at h2
  omega
 nd:=(ye hv).imp λh=>Int.ne_of_lt h
 small:=mE hv
 nz:=λx hx=>by
  obtain⟨r,h1,rfl⟩:=List.mem_map.1 hx
  have:=(hv.idr r h1).1;omega
 row:=λx y k=>by
  rw[hg]
  by_cases h:x∈ids t
  ·rw[if_pos h];exact hr x y k
  ·rw[if_neg h]
   constructor
   ·rintro⟨s,hs,_⟩;simp at hs
   ·intro he;exact absurd (hc x y k he).2.1 h
 cs:=λx y k h=>(hc x y k h).1
 inV:=λx y k h=>(hc x y k h).2.2
theorem ahE(hv:Vt t):Ok (nG t) (RdT t):=by
 unfold nG
 have hab:∀l∈t.Links,l.A∈ids t∧l.B∈ids t∧l.A≠l.B:=λl hl=>by
  have h1:=hv.ends l hl
  have h2:=hv.lt l hl
  exact⟨iy.2 h1.1,iy.2 h1.2,by omega⟩
 refine Ok.yW (λp s=>(KN s.1∧∀x,aK s.1 x=if x∈p.map (·.ID)then some []else none)∧(KN s.2∧∀x,aK s.2 x=if x∈p.map (·.ID)then some []else none)) ?_ _ ?_ ?_
 ·rintro p e r ⟨m1,m2⟩ Z _ ⟨⟨h1,h2⟩,h3,h4⟩ hZ
  refine hZ _ ⟨⟨si h1,λx=>?_⟩,si h3,λx=>?_⟩
  ·rw[fQ,h2]
   by_cases hx:x=e.ID<;>simp[hx]
  ·rw[fQ,h4]
   by_cases hx:x=e.ID<;>simp[hx]
 ·exact⟨⟨List.nodup_nil,λx=>by simp[aK]⟩,List.nodup_nil,λx=>by simp[aK]⟩
 rintro⟨m1,m2⟩ ⟨⟨h1,h2⟩,h3,h4⟩
 simp only at h1 h2 h3 h4 ⊢
 refine Ok.yW (λp s=>(KN s.1∧∀x,aK s.1 x=if x∈ids t then some (p.filterMap (dw x))else none)∧(KN s.2∧∀x,aK s.2 x=if x∈ids t then some (p.filterMap (inS x))else none)) ?_ _ ⟨⟨h1,λx=>by rw[h2];rfl⟩,h3,λx=>by rw[h4];rfl⟩ ?_
 ·rintro p e r ⟨m3,m4⟩ Z hL ⟨⟨g1,g2⟩,g3,g4⟩ hZ
  simp only at g1 g2 g3 g4 ⊢
  obtain⟨a1,a2,a3⟩:=hab e (by rw[hL];simp)
  have hp:p.length≤60:=by have:=hv.nl;rw[hL]at this;simp at this;omega
  have hf:∀(f:aW→Option aG),(p.filterMap f).length≤60:=λf=>Nat.le_trans (List.length_filterMap_le _ _) hp
  have app:∀(f:aW→Option aG) (s:aG),dL (p.filterMap f) [s]=some (p.filterMap f++[s]):=λf s=>nu (by have:=hf f;simp;omega)
  have e1:(aK m3 e.A).getD []=p.filterMap (dw e.A):=by rw[g2,if_pos a1];rfl
  have e2:∀l,(aK (bU m3 e.A l) e.B).getD []=p.filterMap (dw e.B):=λl=>by rw[fQ,if_neg (Ne.symm a3),g2,if_pos a2];rfl
  have e3:(aK m4 e.B).getD []=p.filterMap (inS e.B):=by rw[g4,if_pos a2];rfl
  have e4:∀l,(aK (bU m4 e.B l) e.A).getD []=p.filterMap (inS e.A):=λl=>by rw[fQ,if_neg a3,g4,if_pos a1];rfl
  rw[e1,app,aM,e2,app,aM,e3,app,aM,e4,app,aM]
  refine hZ _ ⟨⟨si (si g1),λx=>?_⟩,si (si g3),λx=>?_⟩
  ·rw[fQ,fQ,g2,List.filterMap_append]
   by_cases hB:x=e.B
   ·subst hB
    rw[if_pos rfl,if_pos a2]
    simp[dw,a3]
   ·rw[if_neg hB]
    by_cases hA:x=e.A
    ·subst hA
     rw[if_pos rfl,if_pos a1]
     simp[dw]
    ·rw[if_neg hA]
     have:dw x e=none:=by simp[dw,Ne.symm hA,Ne.symm hB]
     simp[this]
  ·rw[fQ,fQ,g4,List.filterMap_append]
   by_cases hA:x=e.A
   ·subst hA
    rw[if_pos rfl,if_pos a1]
    simp[inS,Ne.symm a3]
   ·rw[if_neg hA]
    by_cases hB:x=e.B
    ·subst hB
     rw[if_pos rfl,if_pos a2]
     simp[inS]
    ·rw[if_neg hB]
     have:inS x e=none:=by simp[inS,Ne.symm hA,Ne.symm hB]
     simp[this]
 rintro⟨m3,m4⟩ ⟨⟨g1,g2⟩,g3,g4⟩
 simp only at g1 g2 g3 g4 ⊢
 have srt:∀l':List (Int×List aG),l'.Perm m3→∃s',jC (λ(n_1:Int) (_:List aG) (m_5:List (Int×List aG))=>chk (aK m_5 n_1).isSome (bnd (sP xL ((aK m_5 n_1).getD [])) λ(l_5:List aG)=>some (bU m_5 n_1 l_5))) l' m3=some s'∧
   s'.map (·.1)=m3.map (·.1)∧∀x,aK s' x=if x∈ids t then some (xK t x)else none:=λl' hl=>by
  obtain⟨s',q1,q2,q3⟩:=aeX (srt:=λrow=>(sP xL row).getD []) l' m3 ((hl.map _).nodup_iff.2 g1) λp hp=>by
   have hg:=acm g1 (hl.mem_iff.1 hp)
   have h5:=g2 p.1
   rw[hg]at h5
   split at h5
   ·have h5:=Option.some.inj h5
    exact⟨_,hg,by rw[h5,agq hv];rfl⟩
   ·cases h5
  refine⟨s',q1,q2,λx=>?_⟩
  rw[q3,g2]
  have hm:x∈l'.map (·.1)↔x∈ids t:=by
   rw[(hl.map _).mem_iff,←mS,g2]
   by_cases hx:x∈ids t<;>simp[hx]
  by_cases hx:x∈ids t
  ·rw[if_pos (hm.2 hx),if_pos hx,if_pos hx]
   simp[agq hv]
  ·rw[if_neg (λh=>hx (hm.1 h)),if_neg hx,if_neg hx]
 obtain⟨R,r1,r2,r3⟩:=srt m3 (List.Perm.refl _)
 have hkR:KN R:=by rw[KN,r2];exact g1
 refine Ok.bnd (P:=λx=>x=R) ⟨R,aeK λl' hl=>?_,rfl⟩ λx hx=>?_
 ·obtain⟨s',q1,q2,q3⟩:=srt l' hl
  rw[KN.ext hkR (r2.trans q2.symm) λx=>by rw[r3,q3]]
  exact q1
 subst hx
 refine .s ⟨ajP hv hkR r3 (λx y k=>?_) λx y k h=>⟨wm hv h,o7 hv h⟩,ajP hv g3 g4 (aqK hv) λx y k h=>⟨wm hv h,(o7 hv h).2,(o7 hv h).1⟩,λx hx=>by rw[r3,if_pos hx]⟩
 constructor
 ·rintro⟨s,hs,rfl,rfl⟩;exact(yZ hv).1 hs
 ·intro h;exact⟨⟨y,k⟩,(yZ hv).2 h,rfl,rfl⟩
end Go.Proofs.YtdjeacigeegklaaGreat
namespace Go.Proofs.YtdjeacigeegklaaGreat
set_option linter.all false
open Go
def plc(t:aa)(x:Int):Nat:=(ids t).idxOf x
variable {t:aa}{x:Int}
theorem adg(h:x∈ids t):plc t x<t.ah.length:=by
 have:=List.idxOf_lt_length_of_mem h
 simpa [ids,plc]using this
theorem aqN{y:Int}(hx:x∈ids t)(hy:y∈ids t)(h:plc t x=plc t y):x=y:=by
 have h1:=List.getElem_idxOf (List.idxOf_lt_length_of_mem hx)
 have h2:=List.getElem_idxOf (List.idxOf_lt_length_of_mem hy)
 unfold plc at h
 rw[←h1,←h2]
 simp only[h]
theorem ad8{β:Type}(x:Int)(g:Int→Option β)(a:Option β):∀(l:List aR) (j:Nat),bO l j (λ(j1:Int) (e1:aR) (Z1:Unit→Option β) (_:Unit)=>bif decide (e1.ID=x)then g j1 else Z1 ()) (λ_=>a) () =
  if x∈l.map (·.ID)then g ((j+(l.map (·.ID)).idxOf x:Nat):Int)else a
 |[],j=>by simp[bO]
 |r::l,j=>by
  show(bif decide (r.ID=x)then g (j:Int)else bO l (j+1) (λ(j1:Int) (e1:aR) (Z1:Unit→Option β) (_:Unit)=>bif decide (e1.ID=x)then g j1 else Z1 ()) (λ_=>a) ())=_
  by_cases h:r.ID=x
  ·rw[decide_eq_true h,cond_true];subst h;simp
  ·have:=ad8 x g a l (j+1)
   rw[decide_eq_false h,cond_false,this]
   simp only[List.map_cons,List.mem_cons,Ne.symm h,false_or,List.idxOf_cons]
   have hb:(r.ID==x)=false:=by simpa using h
   rw[hb]
   simp only[cond_false]
   rw[show j+1+List.idxOf x (List.map (λx=>x.ID) l)=j+(List.idxOf x (List.map (λx=>x.ID) l)+1)by omega]
theorem aeY(h:x∈ids t):uD t x=some (plc t x:Int):=by
 have:=ad8 x (λj=>some j) (some (0:Int)) t.ah 0
 have h':x∈t.ah.map (·.ID):=h
 rw[if_pos h',Nat.zero_add]at this
 exact this
theorem auE(t:aa)(d:List Int)(x:Int):qo t d x=if x∈ids t then elO d (plc t x:Int)else some 1073741824:=by
 have:=ad8 x (λj=>bnd (elO d j) λe=>some e) (some 1073741824) t.ah 0
 rw[Nat.zero_add]at this
 have e:∀o:Option Int,(bnd o λe=>some e)=o:=λo=>by cases o<;>rfl
 unfold qo
 refine Eq.trans this ?_
 rw[e];rfl
def dS(t:aa)(d:List Int)(x:Int):Int:=d.getD (plc t x) 1073741824
variable {d:List Int}
theorem ad9(hd:d.length=t.ah.length)(hx:x∈ids t):elO d (plc t x:Int)=some (dS t d x):=by
 have h:=adg hx
 rw[←hd]at h
 unfold elO dS
 rw[if_pos (by omega)]
 simp[List.getD_eq_getElem?_getD,h]
theorem aqO(hd:d.length=t.ah.length){y v:Int}(hx:x∈ids t)(hy:y∈ids t):dS t (d.set (plc t x) v) y=if y=x then v else dS t d y:=by
 have h:=adg hx
 rw[←hd]at h
 unfold dS
 rw[List.getD_eq_getElem?_getD,List.getD_eq_getElem?_getD,List.getElem?_set]
 by_cases e:y=x
 ·subst e;simp[h]
 ·rw[if_neg (λe'=>e (aqN hy hx e'.symm)),if_neg e]
structure Bf(t:aa)(to:Int)(d:List Int):Prop where
 len:d.length=t.ah.length
 le:∀x∈ids t,dS t d x≤1073741824
 wk:∀x∈ids t,dS t d x<1073741824→Wk (lkC t) x to (dS t d x)
 z:dS t d to≤0
def xh(t:aa)(d:List Int)(x y w:Int):List Int:=if dS t d y<1073741824 then d.set (plc t x) (if w+dS t d y<dS t d x then w+dS t d y else dS t d x)else d
variable {to w:Int}
theorem aeZ(hv:Vt t)(hB:Bf t to d){y:Int}(hx:x∈ids t)(hy:y∈ids t)(hw:1≤w∧w≤1000){β:Type}(J:List Int→Option β):
  (bnd (elO d (plc t y:Int)) λ(e4:Int)=>bif decide (e4<(1073741824:Int))then bnd (elO d (plc t x:Int)) λ(e5:Int)=>bnd (sO d (plc t x:Int) (if(w64 (w+e4))<e5 then w64 (w+e4)else e5)) λ(l3:List Int)=>J l3 else J d)=J (xh t d x y w):=by
 rw[ad9 hB.len hy,aM]
 unfold xh
 by_cases h:dS t d y<1073741824
 ·rw[if_pos h,show decide (dS t d y<1073741824)=true from decide_eq_true h,cond_true,ad9 hB.len hx,aM]
  have h0:=(hB.wk y hy h).ade (vk hv)
  rw[wq (by omega) (by omega)]
  have hl:=adg hx
  have hlen:=hB.len
  unfold sO
  rw[if_pos (by omega),aM]
  simp
 ·rw[if_neg h,show decide (dS t d y<1073741824)=false from decide_eq_false h,cond_false]
theorem agr(hv:Vt t)(hto:to∈ids t)(hB:Bf t to d){y:Int}(hw:lkC t x y=some w):
  Bf t to (xh t d x y w)∧(∀z∈ids t,dS t (xh t d x y w) z≤dS t d z)∧(dS t d y<1073741824→dS t (xh t d x y w) x≤w+dS t d y):=by
 obtain⟨hx,hy⟩:=o7 hv hw
 unfold xh
 by_cases h:dS t d y<1073741824
 ·rw[if_pos h]
  have hval:∀z∈ids t,dS t (d.set (plc t x) (if w+dS t d y<dS t d x then w+dS t d y else dS t d x)) z=if z=x then(if w+dS t d y<dS t d x then w+dS t d y else dS t d x)else dS t d z:=λz hz=>aqO hB.len hx hz
  have hle:∀z∈ids t,dS t (d.set (plc t x) (if w+dS t d y<dS t d x then w+dS t d y else dS t d x)) z≤dS t d z:=λz hz=>by
   rw[hval z hz]
   split
   ·rename_i e;subst e;split<;>omega
   ·exact Int.le_refl _
  refine⟨⟨by simp[hB.len],λz hz=>Int.le_trans (hle z hz) (hB.le z hz),λz hz hlt=>?_,Int.le_trans (hle to hto) hB.z⟩,hle,λ_=>?_⟩
  ·rw[hval z hz]at hlt ⊢
   split
   ·rename_i e;subst e
    rw[if_pos rfl]at hlt
    split
    ·exact(Wk.one hw).trans (hB.wk y hy h)
    ·rename_i hn;rw[if_neg hn]at hlt;exact hB.wk z hz hlt
   ·rename_i e;rw[if_neg e]at hlt;exact hB.wk z hz hlt
  ·rw[hval x hx,if_pos rfl];split<;>omega
 ·rw[if_neg h]
  exact⟨hB,λz _=>Int.le_refl _,λh'=>absurd h' h⟩
open Classical in
noncomputable def tc(t:aa)(to:Int)(d:List Int)(x:Int):Bool:=decide (∃k,dst (lkC t) x to=some k∧k<dS t d x)
noncomputable def uJ(t:aa)(to:Int)(d:List Int):Nat:=((ids t).filter (tc t to d)).length
theorem xM{α:Type}{p q:α→Bool}{l:List α}(h:∀x∈l,q x=true→p x=true):(l.filter q).length≤(l.filter p).length∧∀x∈l,p x=true→q x=false→(l.filter q).length<(l.filter p).length:=by
 induction l with
 |nil=>simp
 |cons y l ih=>
  obtain⟨i1,i2⟩:=ih λx hx=>h x (by simp[hx])
  have hy:=h y (by simp)
  cases hq:q y with
  |true=>
   rw[List.filter_cons_of_pos hq,List.filter_cons_of_pos (hy hq)]
   refine⟨by simpa using i1,λx hx hp hn=>?_⟩
   rcases List.mem_cons.1 hx with rfl|hx
   ·rw[hq]at hn;cases hn
   ·have:=i2 x hx hp hn;simpa using this
  |false=>
   rw[List.filter_cons_of_neg (by simp[hq])]
   cases hp:p y with
   |true=>
    rw[List.filter_cons_of_pos hp]
    simp only[List.length_cons]
    exact⟨by omega,λx hx _ _=>by omega⟩
   |false=>
    rw[List.filter_cons_of_neg (by simp[hp])]
    refine⟨i1,λx hx hp' hn=>?_⟩
    rcases List.mem_cons.1 hx with rfl|hx
    ·rw[hp]at hp';cases hp'
    ·exact i2 x hx hp' hn
theorem aay(hv:Vt t){a b k:Int}(ha:a∈ids t)(h:dst (lkC t) a b=some k):0≤k∧k≤24000:=by
 obtain⟨g,h1,h2⟩:=ahE hv
 obtain⟨l,h3,h4⟩:=auD h2.fw ha
 exact h4.2.2 b k h
theorem aiK(hv:Vt t){d':List Int}(hB:Bf t to d)(hle:∀z∈ids t,dS t d' z≤dS t d z)
  (hr:∀l∈t.Links,(dS t d l.B<1073741824→dS t d' l.A≤l.jh+dS t d l.B)∧(dS t d l.A<1073741824→dS t d' l.B≤l.ji+dS t d l.A)):uJ t to d'≤uJ t to d∧(uJ t to d≠0→uJ t to d'<uJ t to d):=by
 have hmono:∀x∈ids t,tc t to d' x=true→tc t to d x=true:=λx hx h=>by
  simp only[tc,decide_eq_true_eq]at h ⊢
  obtain⟨k,h1,h2⟩:=h
  exact⟨k,h1,by have:=hle x hx;omega⟩
 obtain⟨f1,f2⟩:=xM hmono
 refine⟨f1,λhne=>?_⟩
 have ex:∀(n:Nat) (x k:Int),k.toNat=n→x∈ids t→dst (lkC t) x to=some k→k<dS t d x→∃x k,x∈ids t∧dst (lkC t) x to=some k∧k<dS t d x∧∀y m,y∈ids t→dst (lkC t) y to=some m→m<k→dS t d y≤m:=by
  intro n
  induction n using Nat.strongRecOn with
  |_ n ih=>
   intro x k hn hx h1 h2
   by_cases hall:∀y m,y∈ids t→dst (lkC t) y to=some m→m<k→dS t d y≤m
   ·exact⟨x,k,hx,h1,h2,hall⟩
   ·have:∃y m,y∈ids t∧dst (lkC t) y to=some m∧m<k∧m<dS t d y:=by
     refine Classical.byContradiction λhc=>hall λy m q1 q2 q3=>?_
     by_cases q:dS t d y≤m
     ·exact q
     ·exact absurd ⟨y,m,q1,q2,q3,by omega⟩ hc
    obtain⟨y,m,q1,q2,q3,q4⟩:=this
    have:=yY (vk hv) q2
    exact ih m.toNat (by omega) y m rfl q1 q2 q4
 have:∃x,x∈(ids t).filter (tc t to d):=by
  cases hf:(ids t).filter (tc t to d)with
  |nil=>exact absurd (by unfold uJ;rw[hf];rfl) hne
  |cons x r=>exact⟨x,by simp⟩
 obtain⟨x0,hx0⟩:=this
 obtain⟨m1,m2⟩:=List.mem_filter.1 hx0
 simp only[tc,decide_eq_true_eq]at m2
 obtain⟨k0,m3,m4⟩:=m2
 obtain⟨x,k,x1,x2,x3,x4⟩:=ex _ x0 k0 rfl m1 m3 m4
 refine f2 x x1 (by simp only[tc,decide_eq_true_eq];exact⟨k,x2,x3⟩) ?_
 simp only[tc,decide_eq_false_iff_not]
 rintro⟨k',y1,y2⟩
 rw[x2]at y1;cases y1
 have hxt:x≠to:=λe=>by
  subst e
  have:=yY (vk hv) x2
  have:=hB.z
  omega
 obtain⟨y,w,m,z1,z2,z3⟩:=aeU x2 hxt
 obtain⟨_,hy⟩:=o7 hv z1
 have hw:=wm hv z1
 have hvy:=x4 y m hy z2 (by omega)
 have hsm:=aay hv hy z2
 obtain⟨l,hl,he⟩:=jf.1 (iH.1 z1).1
 have hlt:=hv.lt l hl
 rcases he with⟨rfl,rfl⟩|⟨rfl,rfl⟩
 ·have hc:w=l.jh:=by
   rw[←(iH.1 z1).2,jK hv hl (by simp[eM])];simp[iN]
  have:=(hr l hl).1 (by omega)
  omega
 ·have hc:w=l.ji:=by
   have:l.A≠l.B:=by omega
   rw[←(iH.1 z1).2,jK hv hl (by simp[eM])];simp[iN,this]
  have:=(hr l hl).2 (by omega)
  omega
theorem ahF(hv:Vt t){l:aW}(hl:l∈t.Links):lkC t l.A l.B=some l.jh∧lkC t l.B l.A=some l.ji:=by
 have hlt:=hv.lt l hl
 have hne:l.A≠l.B:=by omega
 constructor
 ·refine iH.2 ⟨jf.2 ⟨l,hl,.inl ⟨rfl,rfl⟩⟩,?_⟩
  rw[jK hv hl (by simp[eM])];simp[iN]
 ·refine iH.2 ⟨jf.2 ⟨l,hl,.inr ⟨rfl,rfl⟩⟩,?_⟩
  rw[jK hv hl (by simp[eM])];simp[iN,hne]
structure ToP(t:aa)(to:Int)(d:List Int):Prop where
 len:d.length=t.ah.length
 val:∀x∈ids t,dS t d x=(dst (lkC t) x to).getD 1073741824
theorem auF(hv:Vt t)(hto:to∈ids t):Ok (yS t to) (ToP t to):=by
 have hn:t.ah.length≤24:=hv.nr
 unfold yS
 refine Ok.chk (by simp;omega) ?_
 refine Ok.whl (λ(s:List Int×Int)=>s.1.length=t.ah.length∧0≤s.2∧s.2≤(t.ah.length:Int)∧∀j:Nat,(j:Int)<s.2→s.1[j]?=((ids t)[j]?).map λy=>if y=to then 0 else 1073741824) (λ(s:List Int×Int)=>((t.ah.length:Int)-s.2).toNat) (s:=(List.replicate ((t.ah.length:Int)).toNat (0:Int),(0:Int))) ⟨by simp,Int.le_refl _,by simp,λj hj=>by simp at hj;omega⟩ (by simp;omega) ?_
 rintro⟨d,i⟩ Z ⟨i1,i2,i3,i4⟩ hZ
 simp only at i1 i2 i3 i4 hZ ⊢
 refine Ok.cs (λh1=>?_) λh1=>?_
 ·have hi:i<d.length:=of_decide_eq_true h1
  refine Ok.jn (λd2=>d2.length=t.ah.length∧∀j:Nat,(j:Int)<i+1→d2[j]?=((ids t)[j]?).map λy=>if y=to then 0 else 1073741824) (λd2 hd2=>?_) λJ hJ=>?_
  ·rw[wq (by omega) (by omega)]
   exact hZ (d2,i+1) ⟨hd2.1,by omega,by omega,hd2.2⟩ (by simp only;omega)
  refine Ok.bnd (iQ i2 (by omega)) λ_ _=>Ok.bnd (agh i2 hi) λl1 hl1=>Ok.bnd (iQ i2 (by omega)) λe he=>?_
  have hid:(ids t)[i.toNat]?=some e.ID:=by simp[ids,he.2]
  obtain⟨rfl,hl2⟩:=hl1
  have anH:∀(v:Int) (l:List Int),l=d.set i.toNat v→v=(if e.ID=to then 0 else 1073741824)→l.length=t.ah.length∧∀j:Nat,(j:Int)<i+1→l[j]?=((ids t)[j]?).map λy=>if y=to then 0 else 1073741824:=by
   rintro v l rfl hvv
   refine⟨by simpa using i1,λj hj=>?_⟩
   rw[List.getElem?_set]
   by_cases e1:i.toNat=j
   ·subst e1;rw[if_pos rfl,if_pos (by omega),hid,hvv];rfl
   ·rw[if_neg e1];exact i4 j (by omega)
  refine Ok.cs (λh2=>?_) λh2=>?_
  ·refine Ok.bnd (iQ i2 (by simpa using hi)) λ_ _=>Ok.bnd (agh i2 (by simpa using hi)) λl2 hl3=>hJ l2 (anH 0 l2 (by rw[hl3.1,List.set_set]) (by rw[if_pos (of_decide_eq_true h2)]))
  ·exact hJ _ (anH 1073741824 _ rfl (by rw[if_neg (of_decide_eq_false h2)]))
 have hi:i=(t.ah.length:Int):=by have:=of_decide_eq_false h1;omega
 subst hi
 have hv0:∀x∈ids t,dS t d x=if x=to then 0 else 1073741824:=λx hx=>by
  have hp:=adg hx
  have:=i4 (plc t x) (by omega)
  rw[show(ids t)[plc t x]?=some x by
   unfold plc
   rw[List.getElem?_eq_getElem (List.idxOf_lt_length_of_mem hx)]
   exact congrArg some (List.getElem_idxOf _)]at this
  unfold dS
  rw[List.getD_eq_getElem?_getD,this];rfl
 have hB0:Bf t to d:=⟨i1,λx hx=>by rw[hv0 x hx];split<;>omega,λx hx h=>by
  rw[hv0 x hx]at h ⊢
  split
  ·rename_i e;subst e;exact .nil
  ·rename_i e;rw[if_neg e]at h;omega,by rw[hv0 to hto,if_pos rfl];exact Int.le_refl _⟩
 have hbad:uJ t to d≤t.ah.length:=by
  have:=List.length_filter_le (tc t to d) (ids t)
  simpa [uJ,ids]using this
 refine Ok.whl (λ(s:List Int×Int)=>Bf t to s.1∧0≤s.2∧s.2≤(t.ah.length:Int)∧(uJ t to s.1:Int)+s.2≤(t.ah.length:Int)) (λ(s:List Int×Int)=>((t.ah.length:Int)-s.2).toNat) (s:=(d,(0:Int))) ⟨hB0,Int.le_refl _,by simp,by simp;omega⟩ (by simp;omega) ?_
 rintro⟨d,round⟩ Z ⟨j1,j2,j3,j4⟩ hZ
 simp only at j1 j2 j3 j4 hZ ⊢
 refine Ok.cs (λh1=>?_) λh1=>.s ?_
 ·have hr:round<(t.ah.length:Int):=by have:=of_decide_eq_true h1;rw[j1.len]at this;exact this
  refine Ok.yW (λp d'=>Bf t to d'∧(∀z∈ids t,dS t d' z≤dS t d z)∧∀l∈p,(dS t d l.B<1073741824→dS t d' l.A≤l.jh+dS t d l.B)∧(dS t d l.A<1073741824→dS t d' l.B≤l.ji+dS t d l.A)) ?_ _ ⟨j1,λ_ _=>Int.le_refl _,by simp⟩ ?_
  ·rintro p l r d4 Z2 hL ⟨k1,k2,k3⟩ hZ2
   have hl:l∈t.Links:=by rw[hL];simp
   obtain⟨c1,c2⟩:=ahF hv hl
   obtain⟨a1,a2⟩:=o7 hv c1
   obtain⟨r1,r2,r3⟩:=agr hv hto k1 c1
   obtain⟨s1,s2,s3⟩:=agr hv hto r1 c2
   have q1:=aeZ (β:=List Int) hv k1 a1 a2 (wm hv c1)
   have q2:=aeZ (β:=List Int) hv r1 a2 a1 (wm hv c2)
   have final:=hZ2 (xh t (xh t d4 l.A l.B l.jh) l.B l.A l.ji) ⟨s1,λz hz=>Int.le_trans (s2 z hz) (Int.le_trans (r2 z hz) (k2 z hz)),λm hm=>by
    rcases List.mem_append.1 hm with hm|hm
    ·obtain⟨u1,u2⟩:=k3 m hm
     have hm2:m∈t.Links:=by rw[hL];simp[hm]
     obtain⟨b1,b2⟩:=o7 hv (ahF hv hm2).1
     exact⟨λh=>by have:=u1 h;have:=s2 _ b1;have:=r2 _ b1;omega,λh=>by have:=u2 h;have:=s2 _ b2;have:=r2 _ b2;omega⟩
    ·rw[List.mem_singleton.1 hm]
     refine⟨λh=>?_,λh=>?_⟩
     ·have e1:=k2 _ a2
      have e2:=r3 (by omega)
      have e3:=s2 _ a1
      omega
     ·have e1:=k2 _ a1
      have e2:=r2 _ a1
      have e3:=s3 (by omega)
      omega⟩
   rw[aeY a1,aeY a2]
   refine Eq.mpr (congrArg (λo=>Ok o (ToP t to)) ?_) final
   refine(q1 _).trans ?_
   exact q2 _
  ·rintro d' ⟨k1,k2,k3⟩
   rw[wq (by omega) (by omega)]
   obtain⟨n1,n2⟩:=aiK hv j1 k2 k3
   refine hZ (d',round+1) ⟨k1,by omega,by omega,?_⟩ (by simp only;omega)
   by_cases hz:uJ t to d=0
   ·simp only;omega
   ·have:=n2 hz;simp only;omega
 ·have hr:round=(t.ah.length:Int):=by have:=of_decide_eq_false h1;rw[j1.len]at this;omega
  have hb:uJ t to d=0:=by omega
  refine⟨j1.len,λx hx=>?_⟩
  have hnb:tc t to d x=false:=by
   cases hq:tc t to d x with
   |false=>rfl
   |true=>
    have:x∈(ids t).filter (tc t to d):=List.mem_filter.2 ⟨hx,hq⟩
    have:=List.length_pos_of_mem this
    unfold uJ at hb;omega
  simp only[tc,decide_eq_false_iff_not]at hnb
  cases hd:dst (lkC t) x to with
  |some k=>
   have hsm:=aay hv hx hd
   have h1:dS t d x≤k:=by
    by_cases q:dS t d x≤k
    ·exact q
    ·exact absurd ⟨k,hd,by omega⟩ hnb
   have h2:=(iV.1 hd).2 _ (j1.wk x hx (by omega))
   simp only[Option.getD_some];omega
  |none=>
   simp only[Option.getD_none]
   have h1:=j1.le x hx
   by_cases q:dS t d x<1073741824
   ·exact absurd (j1.wk x hx q) ((ago (vk hv)).1 hd _)
   ·omega
end Go.Proofs.YtdjeacigeegklaaGreat
namespace Go.Proofs.YtdjeacigeegklaaGreat
set_option linter.all false
open Go
open Classical in
noncomputable def dT(t:aa)(a b:Int):Option Int:=if eS t=0∧a∈ids t∧b∈ids t then dst (lkC t) a b else none
variable {a b:Int}{t:aa}
theorem afv(hv:Vt t)(ha:a∈ids t)(hb:b∈ids t):dT t a b=dst (lkC t) a b:=by
 unfold dT;rw[if_pos ⟨fC.2 hv,ha,hb⟩]
variable {k:Int}
theorem qY(h:dT t a b=some k):Vt t∧a∈ids t∧b∈ids t∧dst (lkC t) a b=some k:=by
 unfold dT at h
 split at h
 ·rename_i hc;exact⟨fC.1 hc.1,hc.2.1,hc.2.2,h⟩
 ·cases h
theorem yf(h:¬(eS t=0∧a∈ids t∧b∈ids t)):dT t a b=none:=by unfold dT;rw[if_neg h]
theorem wu(h:dT t a b=some k):0≤k∧k≤24000:=by
 obtain⟨hv,ha,hb,hd⟩:=qY h
 exact aay hv ha hd
theorem ax0(hv:Vt t){g:fT}(hg:RdT t g)(b:Int):∃l,fW g.in_ b=some l∧∀x,aK l x=dT t x b:=by
 by_cases hb:b∈ids t
 ·obtain⟨l,h1,_,h2,_⟩:=auD hg.bw hb
  refine⟨l,h1,λx=>?_⟩
  rw[h2,ad6]
  by_cases hx:x∈ids t
  ·rw[afv hv hx hb]
  ·rw[yf (λh=>hx h.2.1)]
   exact(ago (vk hv)).2 λm hm=>hx (by
    cases hm.rev with
    |nil=>exact absurd hb hx
    |snoc _ hk=>exact(o7 hv hk).1)
 ·refine⟨[],aqJ ?_,λx=>by rw[yf (λh=>hb h.2.2)];rfl⟩
  have:=hg.bw.keys b
  cases h:(aK g.in_ b).isSome with
  |false=>rfl
  |true=>exact absurd (this.1 h) hb
theorem al6(t:aa):kN t=some (decide (eS t=0)):=by unfold kN;rw[oG];rfl
variable {d:List Int}
theorem anI(hv:Vt t){to:Int}(hto:to∈ids t)(hd:ToP t to d)(x:Int):qo t d x=some ((dT t x to).getD 1073741824):=by
 rw[auE]
 by_cases hx:x∈ids t
 ·rw[if_pos hx,ad9 hd.len hx,hd.val x hx,afv hv hx hto]
 ·rw[if_neg hx,yf λe=>hx e.2.1];rfl
theorem abb{r:Int}:hasB t r=decide (r∈ids t):=by
 by_cases h:r∈ids t
 ·rw[decide_eq_true h,iy.1 h]
 ·rw[decide_eq_false h]
  cases hh:hasB t r with
  |false=>rfl
  |true=>exact absurd (iy.2 hh) h
variable {α:Type}
theorem al7(t:aa)(a b:Int)(k:Bool→Option α):(jn k λJ=>bnd (jo t a) λ(v1:Bool)=>bif !v1 then J true else bnd (jo t b) λ(v2:Bool)=>J (!v2))=k (!decide (eS t=0∧a∈ids t∧b∈ids t)):=by
 simp only[jn]
 rw[ad3,ad3,aM,abb,abb]
 by_cases h:eS t=0<;>by_cases h1:a∈ids t<;>by_cases h2:b∈ids t<;>simp[h,h1,h2,bnd]
noncomputable def onB(t:aa)(b x y:Int):Bool:=match dT t x b,dT t y b with
 |some all,some c=>decide ((jJ t x y).1+c=all)
 |_,_=>false
noncomputable def gi(t:aa)(b x:Int):List Int:=(lS t x).filter (onB t b x)
theorem tg{x:Int}(h:dT t x b=none):gi t b x=[]:=by
 unfold gi
 rw[List.filter_eq_nil_iff]
 intro y _
 simp[onB,h]
theorem aco(hv:Vt t)(x:Int):(lS t x).length≤24:=Nat.le_trans (List.length_filter_le _ _) (mE hv)
theorem agt(hv:Vt t){g:fT}(hg:RdT t g){l:List (Int×Int)}(hl:∀x,aK l x=dT t x b)(x:Int):jd g l x=some (gi t b x):=by
 unfold jd
 rw[hl]
 cases hd:dT t x b with
 |none=>rw[tg hd];rfl
 |some all=>
  obtain⟨_,hx,hb,_⟩:=qY hd
  have hall:=wu hd
  simp only[Option.isSome_some,Bool.not_true,cond_false,Option.getD_some]
  rw[hg.row x hx]
  have hn:=aco hv x
  refine(lI (λs:aG=>onB t b x s.to_) (·.to_) (xK t x) 0 [] (λj s Z o hs ho=>?_) (by simp[xK];omega)).trans ?_
  ·have hc:=(yZ hv).1 hs
   have hcl:=wm hv hc
   have hp:=(iH.1 hc).2
   simp only[jn,hl]
   cases hy:dT t s.to_ b with
   |none=>simp[onB,hd,hy]
   |some c=>
    have:=wu hy
    rw[show onB t b x s.to_=decide (s.gn+c=all)by simp[onB,hd,hy,hp]]
    simp only[Option.isSome_some,Bool.true_and,Option.getD_some]
    have hw:w64 (s.gn+c)=s.gn+c:=wq (by omega) (by omega)
    simp only[hw]
    rw[lY ho];rfl
  ·rw[List.nil_append,xK,List.filter_map,List.map_map]
   have:((λ(x:aG)=>x.to_)∘λy=>(⟨y,(jJ t x y).1⟩:aG))=id:=rfl
   rw[this,List.map_id];rfl
theorem ajQ(hv:Vt t)(hb:b∈ids t)(hd:ToP t b d)(x:Int):uE t d x=some (gi t b x):=by
 unfold uE
 rw[anI hv hb hd,aM]
 cases hx:dT t x b with
 |none=>rw[tg hx];rfl
 |some all=>
  have hall:=wu hx
  simp only[Option.getD_some]
  rw[decide_eq_false (show ¬all=1073741824 by omega),Bool.false_or]
  by_cases h0:all=0
  ·rw[decide_eq_true h0,cond_true]
   have:gi t b x=[]:=by
    unfold gi
    rw[List.filter_eq_nil_iff]
    intro y hy
    have:=(xg hv ((jV hv).1 hy)).1
    cases hd2:dT t y b with
    |none=>simp[onB,hx,hd2]
    |some c=>have:=wu hd2;simp[onB,hx,hd2];omega
   rw[this]
  ·rw[decide_eq_false h0,cond_false,ack hv,aM]
   have hn:=aco hv x
   refine(lI (onB t b x) id (lS t x) 0 [] (λj y Z o hy ho=>?_) (by simp;omega)).trans (by rw[List.nil_append,List.map_id];rfl)
   have hp:=xg hv ((jV hv).1 hy)
   simp only[jn,aas,aM,anI hv hb hd]
   cases hd2:dT t y b with
   |none=>simp[onB,hx,hd2]
   |some c=>
    have:=wu hd2
    simp only[Option.getD_some]
    have hw:w64 ((jJ t x y).1+c)=(jJ t x y).1+c:=wq (by omega) (by omega)
    rw[decide_eq_true (show c<1073741824 by omega),cond_true]
    simp only[hw]
    rw[lY ho,show onB t b x y=decide ((jJ t x y).1+c=all)by simp[onB,hx,hd2]];rfl
theorem ajR(t:aa)(a b:Int)(k:Bool→Option α):(jn k λJ=>bnd (kN t) λ(v1:Bool)=>(bif !v1 then J true else J (decide (a=b))))=k (!decide (eS t=0)||decide (a=b)):=by
 simp only[jn]
 rw[al6,aM]
 by_cases h:eS t=0<;>simp[h]
theorem agu(h:¬(eS t=0∧a∈ids t∧b∈ids t)):gi t b a=[]:=tg (yf h)
end Go.Proofs.YtdjeacigeegklaaGreat
namespace Go.Proofs.YtdjeacigeegklaaGreat
set_option linter.all false
open Go
variable {b x:Int}{t:aa}
theorem acp(hv:Vt t){y:Int}:y∈gi t b x↔∃w m k,lkC t x y=some w∧dT t y b=some m∧dT t x b=some k∧w+m=k:=by
 unfold gi
 rw[List.mem_filter,jV hv]
 constructor
 ·rintro⟨h1,h2⟩
  unfold onB at h2
  split at h2
  ·rename_i all c e1 e2
   exact⟨_,c,all,iH.2 ⟨h1,rfl⟩,e2,e1,of_decide_eq_true h2⟩
  ·cases h2
 ·rintro⟨w,m,k,h1,h2,h3,h4⟩
  obtain⟨h5,h6⟩:=iH.1 h1
  exact⟨h5,by simp[onB,h2,h3,h6,h4]⟩
theorem uy(hv:Vt t){y:Int}(h:y∈gi t b x):∃m k,dT t y b=some m∧dT t x b=some k∧m<k:=by
 obtain⟨w,m,k,h1,h2,h3,h4⟩:=(acp hv).1 h
 have:=(wm hv h1).1
 exact⟨m,k,h2,h3,by omega⟩
theorem al8{y:Int}(hv:Vt t)(h:y∈gi t b x):y∈ids t:=by
 obtain⟨m,k,h1,_⟩:=uy hv h
 exact(qY h1).2.1
theorem aea{k:Int}(h:dT t x b=some k)(hne:x≠b):∃y,y∈gi t b x:=by
 obtain⟨hv,hx,hb,hd⟩:=qY h
 obtain⟨y,w,m,h1,h2,h3⟩:=aeU hd hne
 exact⟨y,(acp hv).2 ⟨w,m,k,h1,by rw[afv hv (o7 hv h1).2 hb];exact h2,h,by omega⟩⟩
noncomputable def sj(t:aa)(b x y:Int):Bool:=match dT t y b,dT t x b with
 |some m,some k=>decide (m<k)
 |_,_=>false
noncomputable def rk(t:aa)(b x:Int):Nat:=((ids t).filter (sj t b x)).length
theorem tU(hv:Vt t){y:Int}(h:y∈gi t b x):rk t b y<rk t b x:=by
 obtain⟨m,k,h1,h2,h3⟩:=uy hv h
 refine(xM λz hz hq=>?_).2 y (al8 hv h) (by simp[sj,h1,h2,h3]) (by simp[sj,h1])
 unfold sj at hq ⊢
 rw[h1]at hq
 rw[h2]
 cases hd:dT t z b with
 |none=>rw[hd]at hq;cases hq
 |some j=>rw[hd]at hq;simp only[decide_eq_true_eq]at hq ⊢;omega
theorem adh(hv:Vt t)(hb:b∈ids t):rk t b x<(ids t).length:=by
 cases hd:dT t x b with
 |none=>
  have:(ids t).filter (sj t b x)=[]:=by
   rw[List.filter_eq_nil_iff];intro y _;cases h:dT t y b<;>simp[sj,hd,h]
  unfold rk;rw[this];exact List.length_pos_of_mem hb
 |some k=>
  have hx:=(qY hd).2.1
  have:=(xM (p:=λ_=>true) (q:=sj t b x) (l:=ids t) λ_ _ _=>rfl).2 x hx rfl (by simp[sj,hd])
  rw[List.filter_eq_self.2 λ_ _=>rfl]at this
  exact this
def rtF(f:Int→List Int)(b:Int):Nat→Int→List Int→List Int
 |0,_,_=>[]
 |n+1,x,out=>if x=b then out else match f x with
  |[]=>[]
  |y::_=>rtF f b n y (out++[y])
noncomputable def fZ(t:aa)(a b:Int):List Int:=rtF (gi t b) b 30 a []
variable {a:Int}
theorem yg(b:Int){f:Int→List Int}{n:Nat}(h:f a=[])(hab:a≠b)(out:List Int):rtF f b n a out=[]:=by
 cases n with
 |zero=>rfl
 |succ n=>simp[rtF,hab,h]
theorem aaz(h:¬(eS t=0∧a∈ids t∧b∈ids t)):fZ t a b=[]:=by
 by_cases hab:a=b
 ·simp[fZ,rtF,hab]
 ·exact yg b (agu h) hab []
theorem adi(t:aa)(a b:Int):kO t a b=some (fZ t a b):=by
 unfold kO
 refine(ajR t a b _).trans ?_
 by_cases h:eS t=0
 ·have hv:=fC.1 h
  by_cases hab:a=b
  ·subst hab;simp[fZ,rtF]
  ·obtain⟨g,h1,h2⟩:=ahE hv
   obtain⟨l,h3,h4⟩:=ax0 hv h2 b
   rw[decide_eq_true h,decide_eq_false hab]
   simp only[Bool.not_true,Bool.or_self,cond_false]
   rw[h1,aM,h3,aM]
   refine Ok.eq ?_
   by_cases hb:b∈ids t
   ·have hlen:=mE hv
    refine Ok.whl (λs=>s.1.length≤30∧∃n,rk t b s.2<n∧n+s.1.length≤30∧rtF (gi t b) b n s.2 s.1=fZ t a b) (λs=>rk t b s.2) (s:=([],a)) ⟨by simp,30,by show rk t b a<30;have:=adh hv (x:=a) hb;omega,by simp,rfl⟩ (by have:=adh hv (x:=a) hb;simp only;omega) ?_
    rintro⟨out,x⟩ Z ⟨i0,n,i1,i2,i3⟩ hZ
    simp only at i0 i1 i2 i3 hZ ⊢
    refine Ok.cs (λhx=>?_) λhx=>.s ?_
    ·have hxb:x≠b:=by simpa using hx
     rw[agt hv h2 h4,aM]
     cases hn:gi t b x with
     |nil=>exact .s (by rw[←i3,yg b hn hxb])
     |cons y r=>
      have hr:=tU hv (b:=b) (x:=x) (y:=y) (by rw[hn];simp)
      obtain⟨n,rfl⟩:∃m,n=m+1:=⟨n-1,by omega⟩
      simp only[List.length_cons]
      rw[decide_eq_false (by omega),cond_false]
      simp only[elO]
      rw[if_pos (by decide)]
      simp only[Int.toNat_zero,List.getElem?_cons_zero,aM,lY (show out.length<1000000 by omega)]
      rw[List.length_append]
      simp only[List.length_cons,List.length_nil]
      have hw:w64 (((out.length+(0+1):Nat):Int)-1)=(out.length:Int):=by rw[wq (by omega) (by omega)];omega
      rw[hw,if_pos (by omega)]
      simp only[Int.toNat_natCast]
      rw[List.getElem?_append_right (by omega)]
      simp only[Nat.sub_self,List.getElem?_cons_zero,aM]
      refine hZ (out++[y],y) ⟨by simp;omega,n,by show rk t b y<n;omega,by simp;omega,?_⟩ hr
      rw[←i3];simp[rtF,hxb,hn]
    ·have hxb:x=b:=by simpa using hx
     rw[←i3]
     obtain⟨n,rfl⟩:∃m,n=m+1:=⟨n-1,by omega⟩
     simp[rtF,hxb]
   ·have hn:gi t b a=[]:=agu λe=>hb e.2.2
    refine Ok.whl (λs=>s=([],a)) (λ_=>0) (s:=([],a)) rfl (by decide) ?_
    rintro _ Z rfl hZ
    simp only
    rw[decide_eq_false hab]
    simp only[Bool.not_false,cond_true]
    rw[agt hv h2 h4,aM,hn]
    refine .s ?_
    rw[aaz λe=>hb e.2.2]
 ·rw[decide_eq_false h,aaz λe=>h e.1];rfl
theorem adk(t:aa)(a b:Int):rA t a b=some (fZ t a b):=by
 unfold rA
 refine(al7 t a b _).trans ?_
 by_cases h:eS t=0∧a∈ids t∧b∈ids t
 ·have hv:=fC.1 h.1
  have hb:=h.2.2
  obtain⟨d,h1,h2⟩:=auF hv hb
  rw[decide_eq_true h]
  simp only[Bool.not_true,cond_false]
  rw[h1,aM]
  refine Ok.eq ?_
  have hlen:=mE hv
  refine Ok.whl (λs=>s.2.length≤30∧∃n,rk t b s.1<n∧n+s.2.length≤30∧rtF (gi t b) b n s.1 s.2=fZ t a b) (λs=>rk t b s.1) (s:=(a,[])) ⟨by simp,30,by show rk t b a<30;have:=adh hv (x:=a) hb;omega,by simp,rfl⟩ (by have:=adh hv (x:=a) hb;simp only;omega) ?_
  rintro⟨x,out⟩ Z ⟨i0,n,i1,i2,i3⟩ hZ
  simp only at i0 i1 i2 i3 hZ ⊢
  refine Ok.cs (λhx=>?_) λhx=>.s ?_
  ·have hxb:x≠b:=by simpa using hx
   rw[ajQ hv hb h2,aM]
   cases hn:gi t b x with
   |nil=>exact .s (by rw[←i3,yg b hn hxb])
   |cons y r=>
    have hr:=tU hv (b:=b) (x:=x) (y:=y) (by rw[hn];simp)
    obtain⟨n,rfl⟩:∃m,n=m+1:=⟨n-1,by omega⟩
    simp only[List.length_cons]
    rw[decide_eq_false (by omega),cond_false]
    simp only[elO]
    rw[if_pos (by decide)]
    simp only[Int.toNat_zero,List.getElem?_cons_zero,aM,lY (show out.length<1000000 by omega)]
    refine hZ (y,out++[y]) ⟨by simp;omega,n,by show rk t b y<n;omega,by simp;omega,?_⟩ hr
    rw[←i3];simp[rtF,hxb,hn]
  ·have hxb:x=b:=by simpa using hx
   rw[←i3]
   obtain⟨n,rfl⟩:∃m,n=m+1:=⟨n-1,by omega⟩
   simp[rtF,hxb]
 ·rw[decide_eq_false h,aaz h];rfl
end Go.Proofs.YtdjeacigeegklaaGreat
namespace Go.Proofs.YtdjeacigeegklaaGreat
set_option linter.all false
open Go
variable {a b:Int}{t:aa}
theorem ahG(hv:Vt t)(ha:a∈ids t)(hb:b∈ids t):(dT t a b).isSome=true↔Cn t [] a b:=by
 rw[afv hv ha hb,←axZ]
 constructor
 ·intro h
  obtain⟨k,hk⟩:=Option.isSome_iff_exists.1 h
  exact⟨k,(iV.1 hk).1⟩
 ·rintro⟨m,hm⟩
  obtain⟨k,hk,_⟩:=auC (vk hv) hm
  rw[hk];rfl
theorem ahH(hv:Vt t)(ha:a∈ids t)(hb:b∈ids t):ta t a b=(dT t a b).isSome:=by
 rw[Bool.eq_iff_iff,ahG hv ha hb]
 simp[ta,fC.2 hv,iy.1 ha,iy.1 hb]
theorem agv{t:aa}{b:Int}:∀(n:Nat) (x:Int) (out:List Int),rk t b x<n→(dT t x b).isSome=true→rtF (gi t b) b n x out=out++rtF (gi t b) b n x []
 |0,_,_,h,_=>by omega
 |n+1,x,out,h,hd=>by
  obtain⟨k,hk⟩:=Option.isSome_iff_exists.1 hd
  obtain⟨hv,_⟩:=qY hk
  simp only[rtF]
  by_cases hx:x=b
  ·rw[if_pos hx,if_pos hx,List.append_nil]
  ·rw[if_neg hx,if_neg hx]
   cases hn:gi t b x with
   |nil=>obtain⟨y,hy⟩:=aea hk hx;rw[hn]at hy;cases hy
   |cons y r=>
    have hy:y∈gi t b x:=by rw[hn];simp
    have hr:=tU hv hy
    obtain⟨m,_,hm,_⟩:=uy hv hy
    have hyd:(dT t y b).isSome=true:=by rw[hm];rfl
    simp only
    rw[agv n y (out++[y]) (by omega) hyd,agv n y ([]++[y]) (by omega) hyd]
    simp
theorem ae0{t:aa}{b:Int}:∀(n m:Nat) (x:Int) (out:List Int),rk t b x<n→rk t b x<m→(dT t x b).isSome=true→rtF (gi t b) b n x out=rtF (gi t b) b m x out
 |0,_,_,_,h,_,_=>by omega
 |_+1,0,_,_,_,h,_=>by omega
 |n+1,m+1,x,out,h1,h2,hd=>by
  obtain⟨k,hk⟩:=Option.isSome_iff_exists.1 hd
  obtain⟨hv,_⟩:=qY hk
  simp only[rtF]
  by_cases hx:x=b
  ·rw[if_pos hx,if_pos hx]
  ·rw[if_neg hx,if_neg hx]
   cases hn:gi t b x with
   |nil=>rfl
   |cons y r=>
    have hy:y∈gi t b x:=by rw[hn];simp
    have hr:=tU hv hy
    obtain⟨k,_,hm,_⟩:=uy hv hy
    exact ae0 n m y _ (by omega) (by omega) (by rw[hm];rfl)
theorem y4(t:aa)(b:Int):fZ t b b=[]:=by simp[fZ,rtF]
variable {x:Int}
theorem adl{k:Int}(h:dT t x b=some k)(hne:x≠b):∃y r,gi t b x=y::r∧fZ t x b=y::fZ t y b:=by
 obtain⟨hv,hx,hb,_⟩:=qY h
 cases hn:gi t b x with
 |nil=>obtain⟨y,hy⟩:=aea h hne;rw[hn]at hy;cases hy
 |cons y r=>
  refine⟨y,r,rfl,?_⟩
  have hy:y∈gi t b x:=by rw[hn];simp
  have hr:=tU hv hy
  obtain⟨m,_,hm,_⟩:=uy hv hy
  have hyd:(dT t y b).isSome=true:=by rw[hm];rfl
  have h1:=adh hv (x:=x) hb
  have h2:=mE hv
  unfold fZ
  rw[show(30:Nat)=29+1 from rfl,rtF,if_neg hne,hn]
  simp only
  rw[agv 29 y ([]++[y]) (by omega) hyd,ae0 29 (29+1) y [] (by omega) (by omega) hyd]
  simp
theorem ae1(P:Int→Prop)(h0:P b)(hs:∀x y k w m r,dT t x b=some k→x≠b→gi t b x=y::r→fZ t x b=y::fZ t y b→lkC t x y=some w→dT t y b=some m→w+m=k→P y→P x):
  ∀(n:Nat) (x:Int),rk t b x≤n→(dT t x b).isSome=true→P x:=by
 intro n
 induction n with
 |zero=>
  intro x hr hd
  obtain⟨k,hk⟩:=Option.isSome_iff_exists.1 hd
  by_cases hx:x=b
  ·rw[hx];exact h0
  ·obtain⟨y,hy⟩:=aea hk hx
   have:=tU (qY hk).1 hy;omega
 |succ n ih=>
  intro x hr hd
  obtain⟨k,hk⟩:=Option.isSome_iff_exists.1 hd
  by_cases hx:x=b
  ·rw[hx];exact h0
  ·obtain⟨y,r,h1,h2⟩:=adl hk hx
   have hv:=(qY hk).1
   have hy:y∈gi t b x:=by rw[h1];simp
   obtain⟨w,m,k',q1,q2,q3,q4⟩:=(acp hv).1 hy
   rw[hk]at q3;cases q3
   exact hs x y k w m r hk hx h1 h2 q1 q2 q4 (ih y (by have:=tU hv hy;omega) (by rw[q2];rfl))
theorem ajS(h:(dT t x b).isSome=true):(x::fZ t x b).getLast?=some b:=by
 refine ae1 (λx=>(x::fZ t x b).getLast?=some b) (by simp[y4]) (λx y k w m r _ _ _ h2 _ _ _ ih=>?_) _ x (Nat.le_refl _) h
 rw[h2,List.getLast?_cons_cons];exact ih
end Go.Proofs.YtdjeacigeegklaaGreat
