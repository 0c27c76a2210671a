/- Several texts in one. No condition but those that stand in each. -/
import Derived.Test.YtdjeacigeegklaaGreatPM
namespace Go.Proofs.YtdjeacigeegklaaGreat
set_option linter.all false
open Go
abbrev Cst:=Int→Int→Option Int
def Pos(c:Cst):Prop:=∀x y k,c x y=some k→1≤k
def uM(c:Cst):Cst:=λx y=>c y x
variable {c:Cst}
theorem Pos.rev(h:Pos c):Pos (uM c):=λx y k hk=>h y x k hk
inductive Wk(c:Cst)(a:Int):Int→Int→Prop
 |nil:Wk c a a 0
 |snoc {x b m k:Int}:Wk c a x m→c x b=some k→Wk c a b (m+k)
variable {a b m:Int}
theorem Wk.abK(hc:Pos c)(h:Wk c a b m):0≤m:=by
 induction h with
 |nil=>omega
 |snoc _ hk ih=>have:=hc _ _ _ hk;omega
variable {x:Int}
theorem Wk.trans{n:Int}(h:Wk c a x m)(h':Wk c x b n):Wk c a b (m+n):=by
 induction h' with
 |nil=>simpa using h
 |snoc _ hk ih=>rw[←Int.add_assoc];exact .snoc ih hk
variable {k:Int}
theorem Wk.one(h:c a b=some k):Wk c a b k:=by have:=Wk.snoc (.nil:Wk c a a 0) h;simpa using this
theorem Wk.rev(h:Wk c a b m):Wk (uM c) b a m:=by
 induction h with
 |nil=>exact .nil
 |@snoc x b m k _ hk ih=>
  have h1:Wk (uM c) b x k:=.one hk
  have:=h1.trans ih
  rwa [Int.add_comm]at this
theorem Wk.ahW(h:Wk (uM c) a b m):Wk c b a m:=h.rev
def IsD(c:Cst)(a b k:Int):Prop:=Wk c a b k∧∀m,Wk c a b m→k≤m
theorem IsD.uniq(h:IsD c a b k)(h':IsD c a b m):k=m:=by
 have:=h.2 _ h'.1;have:=h'.2 _ h.1;omega
theorem aoE(hc:Pos c)(h:Wk c a b m):∃k,IsD c a b k∧k≤m:=by
 have key:∀(n:Nat) (m:Int),m.toNat=n→Wk c a b m→∃k,IsD c a b k∧k≤m:=by
  intro n
  induction n using Nat.strongRecOn with
  |_ n ih=>
   intro m hn h
   by_cases hmin:∀m',Wk c a b m'→m≤m'
   ·exact⟨m,⟨h,hmin⟩,Int.le_refl _⟩
   ·have hmin:∃m',Wk c a b m'∧¬m≤m':=by
     refine Classical.byContradiction λhn=>hmin λm' h=>?_
     by_cases hle:m≤m'
     ·exact hle
     ·exact absurd ⟨m',h,hle⟩ hn
    obtain⟨m',h1,h2⟩:=hmin
    have h3:=h1.abK hc
    obtain⟨k,k1,k2⟩:=ih m'.toNat (by omega) m' rfl h1
    exact⟨k,k1,by omega⟩
 exact key _ m rfl h
open Classical in
noncomputable def dst(c:Cst)(a b:Int):Option Int:=if h:∃k,IsD c a b k then some (Classical.choose h)else none
theorem lq:dst c a b=some k↔IsD c a b k:=by
 unfold dst
 constructor
 ·intro h
  split at h
  ·rename_i hx
   cases h
   exact Classical.choose_spec hx
  ·cases h
 ·intro h
  rw[dif_pos ⟨k,h⟩]
  exact congrArg some ((Classical.choose_spec (⟨k,h⟩:∃k,IsD c a b k)).uniq h)
theorem agE(hc:Pos c):dst c a b=none↔∀m,¬Wk c a b m:=by
 constructor
 ·intro h m hm
  obtain⟨k,h1,_⟩:=aoE hc hm
  rw[lq.2 h1]at h;cases h
 ·intro h
  cases hd:dst c a b with
  |none=>rfl
  |some k=>exact absurd (lq.1 hd).1 (h k)
theorem adR(hc:Pos c)(h:dst c a b=some k):0≤k:=(lq.1 h).1.abK hc
theorem acO:IsD (uM c) a b k↔IsD c b a k:=
 ⟨λh=>⟨h.1.ahW,λm hm=>h.2 m hm.rev⟩,λh=>⟨h.1.rev,λm hm=>h.2 m hm.ahW⟩⟩
theorem akZ(a b:Int):dst (uM c) a b=dst c b a:=by
 cases h:dst c b a with
 |some k=>exact lq.2 (acO.2 (lq.1 h))
 |none=>
  cases h':dst (uM c) a b with
  |none=>rfl
  |some k=>rw[lq.2 (acO.1 (lq.1 h'))]at h;cases h
def lkC(t:af):Cst:=λx y=>if jl t x y then some (jU t x y).1 else none
variable {t:af}
theorem aaK(hv:Vt t){y:Int}(h:jl t x y=true):1≤(jU t x y).1∧(jU t x y).1≤1000:=by
 obtain⟨l,h1,h2⟩:=kj.1 h
 have he:ei l x y=true:=by simp[ei];exact h2
 rw[lp hv h1 he]
 have:=hv.okl l h1
 simp only[qH,Bool.or_eq_false_iff,Bool.not_eq_false',sU,Bool.and_eq_true,decide_eq_true_eq]at this
 unfold jh
 by_cases hb:(decide (l.A=x)&&decide (l.B=y))=true
 ·simp only[hb,cond_true];omega
 ·simp only[Bool.not_eq_true]at hb;simp only[hb,cond_false];omega
theorem ak0(hv:Vt t):Pos (lkC t):=λx y k h=>by
 unfold lkC at h
 split at h
 ·rename_i ha;cases h;exact(aaK hv ha).1
 ·cases h
theorem nk{y:Int}:lkC t x y=some k↔jl t x y=true∧(jU t x y).1=k:=by
 unfold lkC
 split
 ·rename_i h;simp[h]
 ·rename_i h;simp[h]
theorem yX(hv:Vt t){y:Int}(h:lkC t x y=some k):1≤k∧k≤1000:=by
 obtain⟨h1,rfl⟩:=nk.1 h;exact aaK hv h1
theorem ue(hv:Vt t){y:Int}(h:lkC t x y=some k):x∈ids t∧y∈ids t:=by
 obtain⟨h1,_⟩:=nk.1 h;exact⟨lV hv (qc h1),lV hv h1⟩
theorem Wk.ids{t:af}(hv:Vt t){a b m:Int}(h:Wk (lkC t) a b m)(ha:a∈ids t):b∈ids t:=by
 cases h with
 |nil=>exact ha
 |snoc _ hk=>exact(ue hv hk).2
end Go.Proofs.YtdjeacigeegklaaGreat
namespace Go.Proofs.YtdjeacigeegklaaGreat
set_option linter.all false
open Go
def KN{α:Type}(l:List (Int×α)):Prop:=(l.map (·.1)).Nodup
variable {α:Type}{l:List (Int×α)}
theorem agF{n:Int}{v:α}(h:aA l n=some v):(n,v)∈l:=by
 induction l with
 |nil=>simp[aA]at h
 |cons p r ih=>
  rw[dR]at h
  split at h
  ·rename_i hp;cases h;subst hp;exact List.mem_cons_self
  ·exact List.mem_cons_of_mem _ (ih h)
theorem ye{n:Int}{v:α}(hk:KN l)(h:(n,v)∈l):aA l n=some v:=by
 induction l with
 |nil=>simp at h
 |cons p r ih=>
  simp only[KN,List.map_cons,List.nodup_cons]at hk
  rw[dR]
  rcases List.mem_cons.1 h with rfl|h
  ·rw[if_pos rfl]
  ·have:p.1≠n:=λe=>hk.1 (by rw[e];exact List.mem_map.2 ⟨_,h,rfl⟩)
   rw[if_neg this];exact ih hk.2 h
theorem jV{n:Int}:(aA l n).isSome=true↔n∈l.map (·.1):=by
 induction l with
 |nil=>simp[aA]
 |cons p r ih=>
  rw[dR]
  by_cases hp:p.1=n
  ·simp[hp]
  ·rw[if_neg hp,ih];simp[Ne.symm hp]
theorem agG{n m:Int}{v:α}:m∈(bq l n v).map (·.1)↔m=n∨m∈l.map (·.1):=by
 rw[←jV,←jV,ep]
 by_cases h:m=n<;>simp[h]
theorem oJ{n:Int}{v:α}(hk:KN l):KN (bq l n v):=by
 induction l with
 |nil=>simp[bq,KN]
 |cons p r ih=>
  simp only[KN,List.map_cons,List.nodup_cons]at hk
  simp only[bq]
  split
  ·rename_i hp;subst hp;simp only[KN,List.map_cons,List.nodup_cons];exact hk
  ·rename_i hp
   simp only[KN,List.map_cons,List.nodup_cons]
   refine⟨λhm=>?_,ih hk.2⟩
   rcases agG.1 hm with h|h
   ·exact hp h
   ·exact hk.1 h
theorem yf{n:Int}(hk:KN l)(m:Int):aA (mH l n) m=if m=n then none else aA l m:=by
 induction l with
 |nil=>simp[mH,aA]
 |cons p r ih=>
  simp only[KN,List.map_cons,List.nodup_cons]at hk
  simp only[mH]
  by_cases hp:p.1=n
  ·rw[if_pos hp]
   by_cases hm:m=n
   ·rw[if_pos hm]
    cases hg:aA r m with
    |none=>rfl
    |some v=>exact absurd (jV.1 (by rw[hg];rfl)) (by rw[hm,←hp];exact hk.1)
   ·rw[if_neg hm,dR,if_neg (λe=>hm (by rw[←e,hp]))]
  ·rw[if_neg hp,dR,dR,ih hk.2]
   by_cases hm:p.1=m
   ·rw[if_pos hm,if_pos hm,if_neg (λe=>hp (by rw[hm,e]))]
   ·rw[if_neg hm,if_neg hm]
theorem ak1{n:Int}(hk:KN l):KN (mH l n):=by
 induction l with
 |nil=>exact hk
 |cons p r ih=>
  simp only[KN,List.map_cons,List.nodup_cons]at hk
  simp only[mH]
  split
  ·exact hk.2
  ·rename_i hp
   simp only[KN,List.map_cons,List.nodup_cons]
   refine⟨λhm=>hk.1 ?_,ih hk.2⟩
   have:=jV.2 hm
   rw[yf hk.2]at this
   split at this
   ·cases this
   ·exact jV.1 this
variable {V:List Int}
theorem KN.len(hk:KN l)(h:∀n v,aA l n=some v→n∈V):l.length≤V.length:=by
 have:=qu hk λx hx=>by
  obtain⟨v,hv⟩:=Option.isSome_iff_exists.1 (jV.2 hx)
  exact h x v hv
 simpa using this
theorem KN.all(hk:KN l)(hV:V.Nodup)(h:∀n v,aA l n=some v→n∈V)(he:V.length≤l.length){x:Int}(hx:x∈V):(aA l x).isSome=true:=by
 refine Classical.byContradiction λhn=>?_
 have h1:∀y∈l.map (·.1),y∈V.erase x:=λy hy=>by
  obtain⟨v,hv⟩:=Option.isSome_iff_exists.1 (jV.2 hy)
  refine(List.mem_erase_of_ne λe=>hn ?_).2 (h y v hv)
  rw[←e,hv];rfl
 have h2:=qu hk h1
 rw[List.length_map,List.length_erase_of_mem hx]at h2
 have:=List.length_pos_of_mem hx
 omega
def aa1(m:List (Int×Int))(n v b:Int):Bool:=((decide (b=(0:Int)))||((decide (v<((aA m b).getD (0:Int))))||((decide (v=((aA m b).getD (0:Int))))&&(decide (n<b)))))
def yY(m:List (Int×Int)):Int→Int→Int→Option Int:=λn v b=>bif aa1 m n v b then some n else some b
theorem aaL{m:List (Int×Int)}(h0:∀n v,aA m n=some v→n≠0):∀(l:List (Int×Int)) (s:Int),(∀p∈l,aA m p.1=some p.2)→(s=0∨∃k,aA m s=some k)→
  ∃b,gW (yY m) l s=some b∧(b=s∨∃v,(b,v)∈l)∧(l≠[]→b≠0)∧(s≠0→b≠0)∧∀n v,((n,v)∈l∨(n=s∧s≠0∧aA m s=some v))→∀k,aA m b=some k→k<v∨(k=v∧b≤n)
 |[],s,_,hs=>⟨s,rfl,.inl rfl,by simp,id,λn v h k hk=>by
   rcases h with h|⟨rfl,_,h⟩
   ·simp at h
   ·rw[hk]at h;cases h;exact .inr ⟨rfl,Int.le_refl _⟩⟩
 |(n,v)::r,s,hl,hs=>by
  have hn:=hl (n,v) (by simp)
  have hnz:=h0 n v hn
  have step:∃s',yY m n v s=some s'∧(s'=n∨s'=s)∧s'≠0∧(∀k,aA m s'=some k→k<v∨(k=v∧s'≤n))∧(s≠0→∀w,aA m s=some w→∀k,aA m s'=some k→k<w∨(k=w∧s'≤s)):=by
   unfold yY
   cases hb:aa1 m n v s with
   |true=>
    refine⟨n,rfl,.inl rfl,hnz,λk hk=>by rw[hn]at hk;cases hk;exact .inr ⟨rfl,Int.le_refl _⟩,λhs0 w hw k hk=>?_⟩
    rw[hn]at hk;cases hk
    simp only[aa1,hw,Option.getD_some,Bool.or_eq_true,Bool.and_eq_true,decide_eq_true_eq]at hb
    rcases hb with hb|hb|⟨hb,hb2⟩
    ·exact absurd hb hs0
    ·exact .inl hb
    ·exact .inr ⟨hb,by omega⟩
   |false=>
    simp only[aa1,Bool.or_eq_false_iff,Bool.and_eq_false_iff,decide_eq_false_iff_not]at hb
    obtain⟨b1,b2,b3⟩:=hb
    refine⟨s,rfl,.inr rfl,b1,λk hk=>?_,λ_ w hw k hk=>by rw[hw]at hk;cases hk;exact .inr ⟨rfl,Int.le_refl _⟩⟩
    rw[hk]at b2 b3
    simp only[Option.getD_some]at b2 b3
    by_cases hkv:k=v
    ·refine .inr ⟨hkv,?_⟩
     rcases b3 with b3|b3
     ·exact absurd hkv.symm b3
     ·omega
    ·exact .inl (by omega)
  obtain⟨s',e1,e2,e3,e4,e5⟩:=step
  have hs':s'=0∨∃k,aA m s'=some k:=by
   rcases e2 with rfl|rfl
   ·exact .inr ⟨v,hn⟩
   ·exact hs
  obtain⟨b,q1,q2,q3,q4,q5⟩:=aaL h0 r s' (λp hp=>hl p (by simp[hp])) hs'
  refine⟨b,by simp only[gW,e1];exact q1,?_,λ_=>q4 e3,λ_=>q4 e3,λn' v' h k hk=>?_⟩
  ·rcases q2 with rfl|⟨w,hw⟩
   ·rcases e2 with rfl|rfl
    ·exact .inr ⟨v,by simp⟩
    ·exact .inl rfl
   ·exact .inr ⟨w,by simp[hw]⟩
  ·
   obtain⟨ks,hks⟩:=hs'.resolve_left e3
   have hbs:=q5 s' ks (.inr ⟨rfl,e3,hks⟩) k hk
   rcases h with h|⟨rfl,hn0,h⟩
   ·rcases List.mem_cons.1 h with h|h
    ·simp only[Prod.mk.injEq]at h
     obtain⟨rfl,rfl⟩:=h
     have:=e4 ks hks
     omega
    ·exact q5 n' v' (.inl h) k hk
   ·have:=e5 hn0 v' h ks hks
    omega
theorem agH{m:List (Int×Int)}(hK:KN m)(h0:∀n v,aA m n=some v→n≠0)(hne:m≠[]):
  ∃b k,aA m b=some k∧(∀n v,aA m n=some v→k<v∨(k=v∧b≤n))∧qo m (yY m) 0=some b:=by
 have all:∀l':List (Int×Int),l'.Perm m→∃b k,gW (yY m) l' 0=some b∧aA m b=some k∧∀n v,aA m n=some v→k<v∨(k=v∧b≤n):=λl' hl=>by
  obtain⟨b,q1,q2,q3,q4,q5⟩:=aaL h0 l' 0 (λp hp=>ye hK (hl.mem_iff.1 hp)) (.inl rfl)
  have hb:=q3 λe=>hne (by rw[e]at hl;exact hl.symm.eq_nil)
  rcases q2 with rfl|⟨k,hk⟩
  ·exact absurd rfl hb
  ·have hg:=ye hK (hl.mem_iff.1 hk)
   exact⟨b,k,q1,hg,λn v hv=>q5 n v (.inl (hl.mem_iff.2 (agF hv))) k hg⟩
 obtain⟨b,k,h1,h2,h3⟩:=all m (List.Perm.refl m)
 refine⟨b,k,h2,h3,aax λl' hl=>?_⟩
 obtain⟨b',k',g1,g2,g3⟩:=all l' hl
 have e1:=h3 b' k' g2
 have e2:=g3 b k h2
 have:b'=b:=by omega
 rw[g1,this]
structure Gph(links:List (Int×List ay))(V:List Int)(c:Cst):Prop where
 keys:∀x,(aA links x).isSome=true↔x∈V
 len:links.length=V.length
 nd:V.Nodup
 small:V.length≤24
 nz:∀x∈V,x≠0
 row:∀x y k,(∃s∈(aA links x).getD [],s.to_=y∧s.fh=k)↔c x y=some k
 cs:∀x y k,c x y=some k→1≤k∧k≤1000
 inV:∀x y k,c x y=some k→y∈V
structure Dj(V:List Int)(c:Cst)(a:Int)(out opn:List (Int×Int)):Prop where
 ko:KN out
 kp:KN opn
 oV:∀x k,aA out x=some k→x∈V∧dst c a x=some k∧k≤1000*(out.length:Int)
 pV:∀x k,aA opn x=some k→x∈V∧aA out x=none∧Wk c a x k∧k≤1000*(out.length:Int)
 cl:∀x k y w,aA out x=some k→c x y=some w→(aA out y).isSome=true∨∃m,aA opn y=some m∧m≤k+w
 st:(aA out a).isSome=true∨∃k,aA opn a=some k∧k≤0
variable {c:Cst}{links:List (Int×List ay)}
theorem Gph.pos(h:Gph links V c):Pos c:=λx y k hk=>(h.cs x y k hk).1
variable {a:Int}{opn out:List (Int×Int)}
theorem Dj.front(hc:Pos c)(h:Dj V c a out opn){z m:Int}(hw:Wk c a z m):(aA out z).isSome=true∨∃y k,aA opn y=some k∧k≤m:=by
 induction hw with
 |nil=>
  rcases h.st with q|⟨k,q1,q2⟩
  ·exact .inl q
  ·exact .inr ⟨a,k,q1,q2⟩
 |@snoc x b m k hx hk ih=>
  have:=hc _ _ _ hk
  rcases ih with q|⟨y,k',q1,q2⟩
  ·obtain⟨d,hd⟩:=Option.isSome_iff_exists.1 q
   have hle:=(lq.1 (h.oV x d hd).2.1).2 _ hx
   rcases h.cl x d b k hd hk with q|⟨m',q1,q2⟩
   ·exact .inl q
   ·exact .inr ⟨b,m',q1,by omega⟩
  ·exact .inr ⟨y,k',q1,by omega⟩
theorem Dj.done(hc:Pos c)(h:Dj V c a out opn)(hin:∀z m,Wk c a z m→(aA out z).isSome=true)(x:Int):aA out x=dst c a x:=by
 cases hd:dst c a x with
 |some k=>
  obtain⟨k',hk'⟩:=Option.isSome_iff_exists.1 (hin x k (lq.1 hd).1)
  have:=(h.oV x k' hk').2.1
  rw[hd]at this;cases this;exact hk'
 |none=>
  cases ho:aA out x with
  |none=>rfl
  |some k=>have:=(h.oV x k ho).2.1;rw[hd]at this;cases this
theorem abL{n:Int}(h0 : -1000000≤n)(h1:n≤4000000000):w64 n=n:=by unfold w64;rw[IntKind.wrap_i64];omega
theorem aoF(h:Gph links V c)(ha:a∈V):
  Ok (eN links a) (λl=>KN l∧(∀x,aA l x=dst c a x)∧∀x k,dst c a x=some k→0≤k∧k≤24000):=by
 have hc:=h.pos
 have fin:∀out opn,Dj V c a out opn→(∀z m,Wk c a z m→(aA out z).isSome=true)→KN out∧(∀x,aA out x=dst c a x)∧∀x k,dst c a x=some k→0≤k∧k≤24000:=λout opn hD hin=>by
  have hd:=hD.done hc hin
  refine⟨hD.ko,hd,λx k hk=>⟨adR hc hk,?_⟩⟩
  rw[←hd x]at hk
  have h1:=(hD.oV x k hk).2.2
  have h2:=hD.ko.len (V:=V) λn v hv=>(hD.oV n v hv).1
  have:=h.small
  omega
 unfold eN
 rw[show(aA links a).isSome=true from(h.keys a).2 ha]
 simp only[Bool.not_true,cond_false]
 refine Ok.jn (λs=>KN s.1∧(∀x,aA s.1 x=dst c a x)∧∀x k,dst c a x=some k→0≤k∧k≤24000) (λs hs=>.s hs) λJ hJ=>?_
 refine Ok.whl (λs=>Dj V c a s.1 s.2) (λs=>V.length+1-s.1.length) ?_ (by have:=h.small;omega) ?_
 ·refine⟨List.nodup_nil,by simp[KN,bq],λx k hk=>by simp[aA]at hk,λx k hk=>?_,λx k y w hk=>by simp[aA]at hk,.inr ⟨0,by rw[ep,if_pos rfl],Int.le_refl _⟩⟩
  rw[ep]at hk
  split at hk
  ·rename_i e;subst e;cases hk;exact⟨ha,rfl,.nil,by simp⟩
  ·simp[aA]at hk
 rintro⟨out,opn⟩ Z hD hZ
 simp only at hD hZ ⊢
 refine Ok.cs (λh1=>?_) λh1=>?_
 ·have hne:opn≠[]:=λe=>by simp[e]at h1
  have h0:∀n v,aA opn n=some v→n≠0:=λn v hv=>h.nz n (hD.pV n v hv).1
  obtain⟨b,k,hb,hmin,hpk⟩:=agH hD.kp h0 hne
  refine Ok.bnd (P:=λx=>x=b) ⟨b,hpk,rfl⟩ λx hx=>?_
  subst hx
  simp only[hb,Option.getD_some]
  obtain⟨bV,bo,bw,bk⟩:=hD.pV x k hb
  have bd:dst c a x=some k:=lq.2 ⟨bw,λm hm=>by
   rcases hD.front hc hm with q|⟨y,k',q1,q2⟩
   ·rw[bo]at q;cases q
   ·have:=hmin y k' q1;omega⟩
  have hlen:(bq out x k).length=out.length+1:=agD bo
  have ko2:KN (bq out x k):=oJ hD.ko
  have k0:=bw.abK hc
  have oV2:∀y d,aA (bq out x k) y=some d→y∈V∧dst c a y=some d∧d≤1000*((bq out x k).length:Int):=λy d hy=>by
   rw[ep]at hy
   rw[hlen]
   split at hy
   ·rename_i e;subst e;cases hy;exact⟨bV,bd,by omega⟩
   ·obtain⟨q1,q2,q3⟩:=hD.oV y d hy
    exact⟨q1,q2,by omega⟩
  have olen:(bq out x k).length≤V.length:=ko2.len λn v hv=>(oV2 n v hv).1
  have outs:∀y,(aA out y).isSome=true→(aA (bq out x k) y).isSome=true:=λy hy=>by
   rw[ep];split
   ·rfl
   ·exact hy
  refine Ok.cs (λh2=>hJ _ ?_) λh2=>?_
  ·
   have h2:(bq out x k).length=links.length:=by have:=of_decide_eq_true h2;omega
   have hin:∀z∈V,(aA (bq out x k) z).isSome=true:=λz hz=>ko2.all h.nd (λn v hv=>(oV2 n v hv).1) (by rw[h2,h.len];exact Nat.le_refl _) hz
   have wV:∀z m,Wk c a z m→z∈V:=λz m hw=>by
    cases hw with
    |nil=>exact ha
    |snoc _ hk=>exact h.inV _ _ _ hk
   refine fin _ [] ⟨ko2,List.nodup_nil,oV2,λy d hy=>by simp[aA]at hy,λy d z w hy hw=>.inl (hin z (h.inV _ _ _ hw)),.inl (hin a ha)⟩ λz m hw=>hin z (wV z m hw)
  ·refine Ok.zS (L:=(aA links x).getD []) (λp m=>KN m∧(∀y d,aA m y=some d→y∈V∧aA (bq out x k) y=none∧Wk c a y d∧d≤1000*((bq out x k).length:Int))∧(∀y d,y≠x→aA opn y=some d→∃d',aA m y=some d'∧d'≤d)∧
    ∀s∈p,(aA (bq out x k) s.to_).isSome=true∨∃d',aA m s.to_=some d'∧d'≤k+s.fh) ?_ _ ?_ ?_
   ·rintro p s r m Z2 hL ⟨i1,i2,i3,i4⟩ hZ2
    have hs:s∈(aA links x).getD []:=by rw[hL];simp
    have hcs:=(h.row x s.to_ s.fh).1 ⟨s,hs,rfl,rfl⟩
    obtain⟨c1,c2⟩:=h.cs _ _ _ hcs
    have hw:w64 (k+s.fh)=k+s.fh:=abL (by omega) (by have:=h.small;omega)
    refine Ok.jn (λm'=>KN m'∧(∀y d,aA m' y=some d→y∈V∧aA (bq out x k) y=none∧Wk c a y d∧d≤1000*((bq out x k).length:Int))∧(∀y d,y≠x→aA opn y=some d→∃d',aA m' y=some d'∧d'≤d)∧
     ∀s'∈p++[s],(aA (bq out x k) s'.to_).isSome=true∨∃d',aA m' s'.to_=some d'∧d'≤k+s'.fh) (λm' hm'=>hZ2 m' hm') λJ2 hJ2=>?_
    refine Ok.cs (λg1=>hJ2 m ⟨i1,i2,i3,λs' hs'=>?_⟩) λg1=>Ok.cs (λg2=>hJ2 _ ?_) λg2=>hJ2 m ⟨i1,i2,i3,λs' hs'=>?_⟩
    ·rcases List.mem_append.1 hs' with hs'|hs'
     ·exact i4 s' hs'
     ·rw[List.mem_singleton.1 hs'];exact .inl g1
    ·
     rw[hw]
     rw[hw]at g2
     refine⟨oJ i1,λy d hy=>?_,λy d hyx hy=>?_,λs' hs'=>?_⟩
     ·rw[ep]at hy
      split at hy
      ·rename_i e;subst e;cases hy
       refine⟨h.inV _ _ _ hcs,by simpa using g1,.snoc bw hcs,by rw[hlen];omega⟩
      ·exact i2 y d hy
     ·obtain⟨d',q1,q2⟩:=i3 y d hyx hy
      rw[ep]
      by_cases e:y=s.to_
      ·rw[if_pos e]
       refine⟨_,rfl,?_⟩
       subst e
       rw[q1]at g2
       simp at g2
       omega
      ·rw[if_neg e];exact⟨d',q1,q2⟩
     ·rw[ep m]
      by_cases e:s'.to_=s.to_
      ·rcases List.mem_append.1 hs' with hs'|hs'
       ·rcases i4 s' hs' with q|⟨d',q1,q2⟩
        ·exact .inl q
        ·right
         rw[if_pos e]
         refine⟨_,rfl,?_⟩
         rw[e]at q1
         rw[q1]at g2
         simp at g2
         omega
       ·rw[List.mem_singleton.1 hs',if_pos rfl];exact .inr ⟨_,rfl,Int.le_refl _⟩
      ·rw[if_neg e]
       rcases List.mem_append.1 hs' with hs'|hs'
       ·exact i4 s' hs'
       ·exact absurd (by rw[List.mem_singleton.1 hs']) e
    ·rcases List.mem_append.1 hs' with hs'|hs'
     ·exact i4 s' hs'
     ·rw[List.mem_singleton.1 hs']
      right
      rw[hw]at g2
      simp only[Bool.or_eq_false_iff,Bool.not_eq_false',decide_eq_false_iff_not]at g2
      obtain⟨d',hd'⟩:=Option.isSome_iff_exists.1 g2.1
      refine⟨d',hd',?_⟩
      have:=g2.2
      rw[hd']at this
      simp at this
      omega
   ·refine⟨ak1 hD.kp,λy d hy=>?_,λy d hyx hy=>⟨d,by rw[yf hD.kp,if_neg hyx];exact hy,Int.le_refl _⟩,λs hs=>by simp at hs⟩
    rw[yf hD.kp]at hy
    split at hy
    ·cases hy
    ·rename_i e
     obtain⟨q1,q2,q3,q4⟩:=hD.pV y d hy
     exact⟨q1,by rw[ep,if_neg e];exact q2,q3,by rw[hlen];omega⟩
   ·rintro m ⟨i1,i2,i3,i4⟩
    refine hZ _ ⟨ko2,i1,oV2,i2,λy d z w hy hw=>?_,?_⟩ (by simp only[hlen];omega)
    ·rw[ep]at hy
     split at hy
     ·rename_i e;subst e;cases hy
      obtain⟨s,hs,rfl,rfl⟩:=(h.row _ _ _).2 hw
      exact i4 s hs
     ·rcases hD.cl y d z w hy hw with q|⟨m',q1,q2⟩
      ·exact .inl (outs z q)
      ·by_cases e:z=x
       ·left;rw[ep,if_pos e];rfl
       ·obtain⟨d',r1,r2⟩:=i3 z m' e q1
        exact .inr ⟨d',r1,by omega⟩
    ·rcases hD.st with q|⟨k',q1,q2⟩
     ·exact .inl (outs a q)
     ·by_cases e:a=x
      ·left;rw[ep,if_pos e];rfl
      ·obtain⟨d',r1,r2⟩:=i3 a k' e q1
       exact .inr ⟨d',r1,by omega⟩
 ·
  have he:opn=[]:=by
   have:=of_decide_eq_false h1
   exact List.eq_nil_of_length_eq_zero (by omega)
  subst he
  refine hJ _ (fin _ _ hD λz m hw=>?_)
  rcases hD.front hc hw with q|⟨y,k,q,_⟩
  ·exact q
  ·simp[aA]at q
theorem ak2(ha:(aA links a).isSome=false):eN links a=some []:=by
 unfold eN
 rw[ha];rfl
end Go.Proofs.YtdjeacigeegklaaGreat
namespace Go.Proofs.YtdjeacigeegklaaGreat
set_option linter.all false
open Go
theorem xD{α:Type}{cf:α→α→Int}(ht:∀a b c,cf a b<0→cf b c<0→cf a c<0):∀{l:List α},(l.Pairwise λa b=>cf a b<0∨cf b a<0)→(nR cf l).Pairwise λa b=>cf a b<0
 |[],_=>List.Pairwise.nil
 |x::r,h=>by
  rw[List.pairwise_cons]at h
  have ih:=xD ht h.2
  have hx:∀y∈nR cf r,cf x y<0∨cf y x<0:=λy hy=>h.1 y ((qh cf r).mem_iff.1 hy)
  simp only[nR]
  generalize nR cf r=m at ih hx
  clear h
  induction m with
  |nil=>simp[zn]
  |cons y m ih2=>
   rw[List.pairwise_cons]at ih
   simp only[zn]
   split
   ·rename_i hyx
    rw[List.pairwise_cons]
    refine⟨λz hz=>?_,ih2 ih.2 λz hz=>hx z (by simp[hz])⟩
    rcases List.mem_cons.1 ((vH cf x m).mem_iff.1 hz)with rfl|hz
    ·exact hyx
    ·exact ih.1 z hz
   ·rename_i hyx
    have hxy:=(hx y (by simp)).resolve_right hyx
    rw[List.pairwise_cons]
    refine⟨λz hz=>?_,List.pairwise_cons.2 ih⟩
    rcases List.mem_cons.1 hz with rfl|hz
    ·exact hxy
    ·exact ht _ _ _ hxy (ih.1 z hz)
theorem aaM{α:Type}{cf:α→α→Int}:∀{l:List α},(l.Pairwise λa b=>cf a b<0)→xR cf l=true
 |[],_=>rfl
 |[x],_=>rfl
 |a::b::r,h=>by
  rw[List.pairwise_cons]at h
  simp only[xR,Bool.and_eq_true,decide_eq_true_eq]
  exact⟨h.1 b (by simp),aaM h.2⟩
theorem adS{α:Type}(f:α→Int){a b:List α}(ha:a.Pairwise λx y=>f x<f y)(hb:b.Pairwise λx y=>f x<f y)(h:∀x,x∈a↔x∈b):a=b:=by
 induction a generalizing b with
 |nil=>
  cases b with
  |nil=>rfl
  |cons y b=>exact absurd ((h y).2 (by simp)) (by simp)
 |cons x a ih=>
  cases b with
  |nil=>exact absurd ((h x).1 (by simp)) (by simp)
  |cons y b=>
   rw[List.pairwise_cons]at ha hb
   have hxy:x=y:=by
    have h1:=(h x).1 (by simp)
    have h2:=(h y).2 (by simp)
    rw[List.mem_cons]at h1 h2
    rcases h1 with h1|h1
    ·exact h1
    ·rcases h2 with h2|h2
     ·exact h2.symm
     ·have:=hb.1 _ h1;have:=ha.1 _ h2;omega
   subst hxy
   congr 1
   refine ih ha.2 hb.2 λz=>?_
   have:=h z
   simp only[List.mem_cons]at this
   constructor
   ·intro hz
    rcases this.1 (.inr hz)with q|q
    ·subst q;have:=ha.1 _ hz;omega
    ·exact q
   ·intro hz
    rcases this.2 (.inr hz)with q|q
    ·subst q;have:=hb.1 _ hz;omega
    ·exact q
theorem KN.ext{α:Type}:∀{l m:List (Int×α)},KN l→l.map (·.1)=m.map (·.1)→(∀x,aA l x=aA m x)→l=m
 |[],m,_,hk,_=>by
  cases m with
  |nil=>rfl
  |cons q m=>simp at hk
 |(n,v)::l,[],_,hk,_=>by simp at hk
 |(n,v)::l,(n',v')::m,hn,hk,h=>by
  simp only[List.map_cons,List.cons.injEq]at hk
  obtain⟨rfl,hk⟩:=hk
  simp only[KN,List.map_cons,List.nodup_cons]at hn
  have h1:=h n
  rw[dR,dR,if_pos rfl,if_pos rfl]at h1
  cases h1
  congr 1
  refine KN.ext hn.2 hk λx=>?_
  have h2:=h x
  rw[dR,dR]at h2
  by_cases hx:n=x
  ·subst hx
   have e1:aA l n=none:=by
    cases hg:aA l n with
    |none=>rfl
    |some a=>exact absurd (jV.1 (by rw[hg];rfl)) hn.1
   have e2:aA m n=none:=by
    cases hg:aA m n with
    |none=>rfl
    |some a=>exact absurd (by rw[hk];exact jV.1 (by rw[hg];rfl)) hn.1
   rw[e1,e2]
  ·rwa [if_neg hx,if_neg hx]at h2
def cw(x:Int)(l:aZ):Option ay:=if l.A=x then some ⟨l.B,l.kI⟩else if l.B=x then some ⟨l.A,l.kJ⟩else none
def inS(x:Int)(l:aZ):Option ay:=if l.B=x then some ⟨l.A,l.kI⟩else if l.A=x then some ⟨l.B,l.kJ⟩else none
variable {t:af}
theorem abM(hv:Vt t)(x y k:Int):(∃s∈t.Links.filterMap (cw x),s.to_=y∧s.fh=k)↔lkC t x y=some k:=by
 rw[nk]
 constructor
 ·rintro⟨s,hs,rfl,rfl⟩
  obtain⟨l,hl,he⟩:=List.mem_filterMap.1 hs
  have hlt:=hv.lt l hl
  unfold cw at he
  split at he
  ·rename_i hA;cases he
   have h1:ei l x l.B=true:=by simp[ei,hA]
   refine⟨kj.2 ⟨l,hl,.inl ⟨hA,rfl⟩⟩,?_⟩
   rw[lp hv hl h1];simp[jh,hA]
  ·split at he
   ·rename_i hA hB;cases he
    have h1:ei l x l.A=true:=by simp[ei,hB]
    refine⟨kj.2 ⟨l,hl,.inr ⟨hB,rfl⟩⟩,?_⟩
    rw[lp hv hl h1];simp[jh,hA]
   ·cases he
 ·rintro⟨h1,rfl⟩
  obtain⟨l,hl,he⟩:=kj.1 h1
  have hlt:=hv.lt l hl
  rcases he with⟨rfl,rfl⟩|⟨rfl,rfl⟩
  ·refine⟨⟨l.B,l.kI⟩,List.mem_filterMap.2 ⟨l,hl,by simp[cw]⟩,rfl,?_⟩
   rw[lp hv hl (by simp[ei])];simp[jh]
  ·refine⟨⟨l.A,l.kJ⟩,List.mem_filterMap.2 ⟨l,hl,by have:l.A≠l.B:=by omega
                                                   simp[cw,this]⟩,rfl,?_⟩
   have:l.A≠l.B:=by omega
   rw[lp hv hl (by simp[ei])];simp[jh,this]
theorem ak3(hv:Vt t)(x y k:Int):(∃s∈t.Links.filterMap (inS x),s.to_=y∧s.fh=k)↔uM (lkC t) x y=some k:=by
 show _↔lkC t y x=some k
 rw[nk]
 constructor
 ·rintro⟨s,hs,rfl,rfl⟩
  obtain⟨l,hl,he⟩:=List.mem_filterMap.1 hs
  have hlt:=hv.lt l hl
  unfold inS at he
  split at he
  ·rename_i hB;cases he
   have h1:ei l l.A x=true:=by simp[ei,hB]
   refine⟨kj.2 ⟨l,hl,.inl ⟨rfl,hB⟩⟩,?_⟩
   rw[lp hv hl h1];simp[jh,hB]
  ·split at he
   ·rename_i hB hA;cases he
    have h1:ei l l.B x=true:=by simp[ei,hA]
    refine⟨kj.2 ⟨l,hl,.inr ⟨rfl,hA⟩⟩,?_⟩
    have:¬l.A=l.B:=by omega
    rw[lp hv hl h1];simp[jh,this]
   ·cases he
 ·rintro⟨h1,rfl⟩
  obtain⟨l,hl,he⟩:=kj.1 h1
  have hlt:=hv.lt l hl
  rcases he with⟨rfl,rfl⟩|⟨rfl,rfl⟩
  ·refine⟨⟨l.A,l.kI⟩,List.mem_filterMap.2 ⟨l,hl,by simp[inS]⟩,rfl,?_⟩
   rw[lp hv hl (by simp[ei])];simp[jh]
  ·refine⟨⟨l.B,l.kJ⟩,List.mem_filterMap.2 ⟨l,hl,by have:l.B≠l.A:=by omega
                                                   simp[inS,this]⟩,rfl,?_⟩
   have:l.A≠l.B:=by omega
   rw[lp hv hl (by simp[ei])];simp[jh,this]
def tD(t:af)(x:Int):List ay:=(mc t x).map λy=>⟨y,(jU t x y).1⟩
theorem uN(hv:Vt t){x:Int}{s:ay}:s∈tD t x↔lkC t x s.to_=some s.fh:=by
 rw[nk]
 simp only[tD,List.mem_map,sV hv]
 constructor
 ·rintro⟨y,h,rfl⟩;exact⟨h,rfl⟩
 ·rintro⟨h1,h2⟩;exact⟨s.to_,h1,by rw[h2]⟩
theorem agI(hv:Vt t)(x:Int):(tD t x).Pairwise λa b=>a.to_<b.to_:=List.pairwise_map.2 (yd hv x)
abbrev tE:ay→ay→Int:=jM [λx:ay=>x.to_]
theorem zT(a b:ay):tE a b<0↔a.to_<b.to_:=by rw[tE,sN];simp[jM]
theorem ak5(hv:Vt t)(x:Int):(t.Links.filterMap (cw x)).Pairwise λa b=>tE a b<0∨tE b a<0:=by
 have hnd:=xC hv x
 have he:t.Links.filterMap (jv x)=(t.Links.filterMap (cw x)).map (·.to_):=by
  rw[List.map_filterMap]
  congr 1
  funext l
  unfold jv cw
  by_cases h1:l.A=x
  ·rw[if_pos h1.symm,if_pos h1];rfl
  ·rw[if_neg (λe=>h1 e.symm),if_neg h1]
   by_cases h2:l.B=x
   ·rw[if_pos h2.symm,if_pos h2];rfl
   ·rw[if_neg (λe=>h2 e.symm),if_neg h2];rfl
 rw[he]at hnd
 refine(List.pairwise_map.1 hnd).imp λ{a b} hab=>?_
 rw[zT,zT]
 omega
theorem abN(hv:Vt t)(x:Int):pg tE (t.Links.filterMap (cw x))=some (tD t x):=by
 have h1:=xD (qQ _) (ak5 hv x)
 have e:nR tE (t.Links.filterMap (cw x))=tD t x:=by
  refine adS (·.to_) (h1.imp λ{a b} h=>(zT a b).1 h) (agI hv x) λs=>?_
  rw[(qh _ _).mem_iff,uN hv]
  constructor
  ·intro hs;exact(abM hv x s.to_ s.fh).1 ⟨s,hs,rfl,rfl⟩
  ·intro hs
   obtain⟨s',h2,h3,h4⟩:=(abM hv x s.to_ s.fh).2 hs
   obtain⟨a,b⟩:=s;obtain⟨a',b'⟩:=s'
   simp only at h3 h4;subst h3 h4;exact h2
 have hl:(t.Links.filterMap (cw x)).length≤60:=Nat.le_trans (List.length_filterMap_le _ _) hv.nl
 have:(decide ((t.Links.filterMap (cw x)).length<4611686018427387904))=true:=by simp;omega
 unfold pg
 rw[aaM h1,this,e];rfl
theorem aaN{srt:List ay→List ay}:∀(l s:List (Int×List ay)),KN l→(∀p∈l,∃row,aA s p.1=some row∧pg tE row=some (srt row))→
  ∃s',gW (λ(n_1:Int) (_:List ay) (m_5:List (Int×List ay))=>chk (aA m_5 n_1).isSome (bnd (pg tE ((aA m_5 n_1).getD [])) λ(l_5:List ay)=>some (bq m_5 n_1 l_5))) l s=some s'∧
   s'.map (·.1)=s.map (·.1)∧∀x,aA s' x=if x∈l.map (·.1)then(aA s x).map srt else aA s x
 |[],s,_,_=>⟨s,rfl,rfl,λx=>by simp⟩
 |(n,v)::l,s,hk,h=>by
  simp only[KN,List.map_cons,List.nodup_cons]at hk
  obtain⟨row,h1,h2⟩:=h (n,v) (by simp)
  obtain⟨s',q1,q2,q3⟩:=aaN (srt:=srt) l (bq s n (srt row)) hk.2 λp hp=>by
   obtain⟨r',h3,h4⟩:=h p (by simp[hp])
   have:p.1≠n:=λe=>hk.1 (by rw[←e];exact List.mem_map.2 ⟨p,hp,rfl⟩)
   exact⟨r',by rw[ep,if_neg this];exact h3,h4⟩
  refine⟨s',?_,q2.trans (vR _ (by rw[h1];rfl)),λx=>?_⟩
  ·simp only[gW,h1,Option.isSome_some,Option.getD_some,h2]
   exact q1
  ·rw[q3,ep]
   simp only[List.map_cons,List.mem_cons]
   by_cases hx:x=n
   ·subst hx
    rw[if_neg hk.1,if_pos rfl,if_pos (.inl rfl),h1];rfl
   ·rw[if_neg hx]
    by_cases hm:x∈l.map (·.1)
    ·rw[if_pos hm,if_pos (.inr hm)]
    ·rw[if_neg hm,if_neg (λe=>e.elim hx hm)]
structure RdT(t:af)(g:eE):Prop where
 fw:Gph g.kZ (ids t) (lkC t)
 bw:Gph g.in_ (ids t) (uM (lkC t))
 row:∀x∈ids t,aA g.kZ x=some (tD t x)
theorem aeV(hv:Vt t){links:List (Int×List ay)}{c:Cst}{f:Int→List ay}(hk:KN links)(hg:∀x,aA links x=if x∈ids t then some (f x)else none)
  (hr:∀x y k,(∃s∈f x,s.to_=y∧s.fh=k)↔c x y=some k) (hc:∀x y k,c x y=some k→(1≤k∧k≤1000)∧x∈ids t∧y∈ids t):Gph links (ids t) c where
 keys:=λx=>by rw[hg];by_cases h:x∈ids t<;>simp[h]
 len:=by
  have hn:(ids t).Nodup:=(wu hv).imp λh=>Int.ne_of_lt h
  have h1:=hk.len (V:=ids t) λn v h=>by
   rw[hg]at h
   split at h
   ·assumption
   ·cases h
  have h2:=qu hn (b:=links.map (·.1)) λx hx=>jV.1 (by rw[hg,if_pos hx];rfl)
  rw[List.length_map]at h2
  omega
 nd:=(wu hv).imp λh=>Int.ne_of_lt h
 small:=ud hv
 nz:=λx hx=>by
  obtain⟨r,h1,rfl⟩:=List.mem_map.1 hx
  have:=(hv.idr r h1).1;omega
 row:=λx y k=>by
  rw[hg]
  by_cases h:x∈ids t
  ·rw[if_pos h];exact hr x y k
  ·rw[if_neg h]
   constructor
   ·rintro⟨s,hs,_⟩;simp at hs
   ·intro he;exact absurd (hc x y k he).2.1 h
 cs:=λx y k h=>(hc x y k h).1
 inV:=λx y k h=>(hc x y k h).2.2
theorem acP(hv:Vt t):Ok (kT t) (RdT t):=by
 unfold kT
 have hab:∀l∈t.Links,l.A∈ids t∧l.B∈ids t∧l.A≠l.B:=λl hl=>by
  have h1:=hv.ends l hl
  have h2:=hv.lt l hl
  exact⟨rC.2 h1.1,rC.2 h1.2,by omega⟩
 refine Ok.zS (λp s=>(KN s.1∧∀x,aA s.1 x=if x∈p.map (·.ID)then some []else none)∧(KN s.2∧∀x,aA s.2 x=if x∈p.map (·.ID)then some []else none)) ?_ _ ?_ ?_
 ·rintro p e r ⟨m1,m2⟩ Z _ ⟨⟨h1,h2⟩,h3,h4⟩ hZ
  refine hZ _ ⟨⟨oJ h1,λx=>?_⟩,oJ h3,λx=>?_⟩
  ·rw[ep,h2]
   by_cases hx:x=e.ID<;>simp[hx]
  ·rw[ep,h4]
   by_cases hx:x=e.ID<;>simp[hx]
 ·exact⟨⟨List.nodup_nil,λx=>by simp[aA]⟩,List.nodup_nil,λx=>by simp[aA]⟩
 rintro⟨m1,m2⟩ ⟨⟨h1,h2⟩,h3,h4⟩
 simp only at h1 h2 h3 h4 ⊢
 refine Ok.zS (λp s=>(KN s.1∧∀x,aA s.1 x=if x∈ids t then some (p.filterMap (cw x))else none)∧(KN s.2∧∀x,aA s.2 x=if x∈ids t then some (p.filterMap (inS x))else none)) ?_ _ ⟨⟨h1,λx=>by rw[h2];rfl⟩,h3,λx=>by rw[h4];rfl⟩ ?_
 ·rintro p e r ⟨m3,m4⟩ Z hL ⟨⟨g1,g2⟩,g3,g4⟩ hZ
  simp only at g1 g2 g3 g4 ⊢
  obtain⟨a1,a2,a3⟩:=hab e (by rw[hL];simp)
  have hp:p.length≤60:=by have:=hv.nl;rw[hL]at this;simp at this;omega
  have hf:∀(f:aZ→Option ay),(p.filterMap f).length≤60:=λf=>Nat.le_trans (List.length_filterMap_le _ _) hp
  have app:∀(f:aZ→Option ay) (s:ay),dX (p.filterMap f) [s]=some (p.filterMap f++[s]):=λf s=>zK (by have:=hf f;simp;omega)
  have e1:(aA m3 e.A).getD []=p.filterMap (cw e.A):=by rw[g2,if_pos a1];rfl
  have e2:∀l,(aA (bq m3 e.A l) e.B).getD []=p.filterMap (cw e.B):=λl=>by rw[ep,if_neg (Ne.symm a3),g2,if_pos a2];rfl
  have e3:(aA m4 e.B).getD []=p.filterMap (inS e.B):=by rw[g4,if_pos a2];rfl
  have e4:∀l,(aA (bq m4 e.B l) e.A).getD []=p.filterMap (inS e.A):=λl=>by rw[ep,if_neg a3,g4,if_pos a1];rfl
  rw[e1,app,bn,e2,app,bn,e3,app,bn,e4,app,bn]
  refine hZ _ ⟨⟨oJ (oJ g1),λx=>?_⟩,oJ (oJ g3),λx=>?_⟩
  ·rw[ep,ep,g2,List.filterMap_append]
   by_cases hB:x=e.B
   ·subst hB
    rw[if_pos rfl,if_pos a2]
    simp[cw,a3]
   ·rw[if_neg hB]
    by_cases hA:x=e.A
    ·subst hA
     rw[if_pos rfl,if_pos a1]
     simp[cw]
    ·rw[if_neg hA]
     have:cw x e=none:=by simp[cw,Ne.symm hA,Ne.symm hB]
     simp[this]
  ·rw[ep,ep,g4,List.filterMap_append]
   by_cases hA:x=e.A
   ·subst hA
    rw[if_pos rfl,if_pos a1]
    simp[inS,Ne.symm a3]
   ·rw[if_neg hA]
    by_cases hB:x=e.B
    ·subst hB
     rw[if_pos rfl,if_pos a2]
     simp[inS]
    ·rw[if_neg hB]
     have:inS x e=none:=by simp[inS,Ne.symm hA,Ne.symm hB]
     simp[this]
 rintro⟨m3,m4⟩ ⟨⟨g1,g2⟩,g3,g4⟩
 simp only at g1 g2 g3 g4 ⊢
 have srt:∀l':List (Int×List ay),l'.Perm m3→∃s',gW (λ(n_1:Int) (_:List ay) (m_5:List (Int×List ay))=>chk (aA m_5 n_1).isSome (bnd (pg tE ((aA m_5 n_1).getD [])) λ(l_5:List ay)=>some (bq m_5 n_1 l_5))) l' m3=some s'∧
   s'.map (·.1)=m3.map (·.1)∧∀x,aA s' x=if x∈ids t then some (tD t x)else none:=λl' hl=>by
  obtain⟨s',q1,q2,q3⟩:=aaN (srt:=λrow=>(pg tE row).getD []) l' m3 ((hl.map _).nodup_iff.2 g1) λp hp=>by
   have hg:=ye g1 (hl.mem_iff.1 hp)
   have h5:=g2 p.1
   rw[hg]at h5
   split at h5
   ·have h5:=Option.some.inj h5
    exact⟨_,hg,by rw[h5,abN hv];rfl⟩
   ·cases h5
  refine⟨s',q1,q2,λx=>?_⟩
  rw[q3,g2]
  have hm:x∈l'.map (·.1)↔x∈ids t:=by
   rw[(hl.map _).mem_iff,←jV,g2]
   by_cases hx:x∈ids t<;>simp[hx]
  by_cases hx:x∈ids t
  ·rw[if_pos (hm.2 hx),if_pos hx,if_pos hx]
   simp[abN hv]
  ·rw[if_neg (λh=>hx (hm.1 h)),if_neg hx,if_neg hx]
 obtain⟨R,r1,r2,r3⟩:=srt m3 (List.Perm.refl _)
 have hkR:KN R:=by rw[KN,r2];exact g1
 refine Ok.bnd (P:=λx=>x=R) ⟨R,aax λl' hl=>?_,rfl⟩ λx hx=>?_
 ·obtain⟨s',q1,q2,q3⟩:=srt l' hl
  rw[KN.ext hkR (r2.trans q2.symm) λx=>by rw[r3,q3]]
  exact q1
 subst hx
 refine .s ⟨aeV hv hkR r3 (λx y k=>?_) λx y k h=>⟨yX hv h,ue hv h⟩,aeV hv g3 g4 (ak3 hv) λx y k h=>⟨yX hv h,(ue hv h).2,(ue hv h).1⟩,λx hx=>by rw[r3,if_pos hx]⟩
 constructor
 ·rintro⟨s,hs,rfl,rfl⟩;exact(uN hv).1 hs
 ·intro h;exact⟨⟨y,k⟩,(uN hv).2 h,rfl,rfl⟩
end Go.Proofs.YtdjeacigeegklaaGreat
namespace Go.Proofs.YtdjeacigeegklaaGreat
set_option linter.all false
open Go
theorem xE{α:Type}{p q:α→Bool}{l:List α}(h:∀x∈l,q x=true→p x=true):(l.filter q).length≤(l.filter p).length∧∀x∈l,p x=true→q x=false→(l.filter q).length<(l.filter p).length:=by
 induction l with
 |nil=>simp
 |cons y l ih=>
  obtain⟨i1,i2⟩:=ih λx hx=>h x (by simp[hx])
  have hy:=h y (by simp)
  cases hq:q y with
  |true=>
   rw[List.filter_cons_of_pos hq,List.filter_cons_of_pos (hy hq)]
   refine⟨by simpa using i1,λx hx hp hn=>?_⟩
   rcases List.mem_cons.1 hx with rfl|hx
   ·rw[hq]at hn;cases hn
   ·have:=i2 x hx hp hn;simpa using this
  |false=>
   rw[List.filter_cons_of_neg (by simp[hq])]
   cases hp:p y with
   |true=>
    rw[List.filter_cons_of_pos hp]
    simp only[List.length_cons]
    exact⟨by omega,λx hx _ _=>by omega⟩
   |false=>
    rw[List.filter_cons_of_neg (by simp[hp])]
    refine⟨i1,λx hx hp' hn=>?_⟩
    rcases List.mem_cons.1 hx with rfl|hx
    ·rw[hp]at hp';cases hp'
    ·exact i2 x hx hp' hn
theorem aeW{t:af}(hv:Vt t){a b k:Int}(ha:a∈ids t)(h:dst (lkC t) a b=some k):0≤k∧k≤24000:=by
 obtain⟨g,h1,h2⟩:=acP hv
 obtain⟨l,h3,h4⟩:=aoF h2.fw ha
 exact h4.2.2 b k h
end Go.Proofs.YtdjeacigeegklaaGreat
namespace Go.Proofs.YtdjeacigeegklaaGreat
set_option linter.all false
open Go
open Classical in
noncomputable def dT(t:af)(a b:Int):Option Int:=if jC t=0∧a∈ids t∧b∈ids t then dst (lkC t) a b else none
variable {a b:Int}{t:af}
theorem arQ(hv:Vt t)(ha:a∈ids t)(hb:b∈ids t):dT t a b=dst (lkC t) a b:=by
 unfold dT;rw[if_pos ⟨nj.2 hv,ha,hb⟩]
variable {k:Int}
theorem yZ(h:dT t a b=some k):Vt t∧a∈ids t∧b∈ids t∧dst (lkC t) a b=some k:=by
 unfold dT at h
 split at h
 ·rename_i hc;exact⟨nj.1 hc.1,hc.2.1,hc.2.2,h⟩
 ·cases h
theorem abO(h:¬(jC t=0∧a∈ids t∧b∈ids t)):dT t a b=none:=by unfold dT;rw[if_neg h]
theorem abP(h:dT t a b=some k):0≤k∧k≤24000:=by
 obtain⟨hv,ha,hb,hd⟩:=yZ h
 exact aeW hv ha hd
theorem arR(hv:Vt t){g:eE}(hg:RdT t g)(b:Int):∃l,eN g.in_ b=some l∧∀x,aA l x=dT t x b:=by
 by_cases hb:b∈ids t
 ·obtain⟨l,h1,_,h2,_⟩:=aoF hg.bw hb
  refine⟨l,h1,λx=>?_⟩
  rw[h2,akZ]
  by_cases hx:x∈ids t
  ·rw[arQ hv hx hb]
  ·rw[abO (λh=>hx h.2.1)]
   exact(agE (ak0 hv)).2 λm hm=>hx (by
    cases hm.rev with
    |nil=>exact absurd hb hx
    |snoc _ hk=>exact(ue hv hk).1)
 ·refine⟨[],ak2 ?_,λx=>by rw[abO (λh=>hb h.2.2)];rfl⟩
  have:=hg.bw.keys b
  cases h:(aA g.in_ b).isSome with
  |false=>rfl
  |true=>exact absurd (this.1 h) hb
theorem agJ(t:af):iG t=some (decide (jC t=0)):=by unfold iG;rw[wq];rfl
noncomputable def onB(t:af)(b x y:Int):Bool:=match dT t x b,dT t y b with
 |some all,some c=>decide ((jU t x y).1+c=all)
 |_,_=>false
noncomputable def mO(t:af)(b x:Int):List Int:=(mc t x).filter (onB t b x)
theorem y4{x:Int}(h:dT t x b=none):mO t b x=[]:=by
 unfold mO
 rw[List.filter_eq_nil_iff]
 intro y _
 simp[onB,h]
theorem agK(hv:Vt t)(x:Int):(mc t x).length≤24:=Nat.le_trans (List.length_filter_le _ _) (ud hv)
theorem abQ(hv:Vt t){g:eE}(hg:RdT t g){l:List (Int×Int)}(hl:∀x,aA l x=dT t x b)(x:Int):gJ g l x=some (mO t b x):=by
 unfold gJ
 rw[hl]
 cases hd:dT t x b with
 |none=>rw[y4 hd];rfl
 |some all=>
  obtain⟨_,hx,hb,_⟩:=yZ hd
  have hall:=abP hd
  simp only[Option.isSome_some,Bool.not_true,cond_false,Option.getD_some]
  rw[hg.row x hx]
  have hn:=agK hv x
  refine(qt (λs:ay=>onB t b x s.to_) (·.to_) (tD t x) 0 [] (λj s Z o hs ho=>?_) (by simp[tD];omega)).trans ?_
  ·have hc:=(uN hv).1 hs
   have hcl:=yX hv hc
   have hp:=(nk.1 hc).2
   simp only[jn,hl]
   cases hy:dT t s.to_ b with
   |none=>simp[onB,hd,hy]
   |some c=>
    have:=abP hy
    rw[show onB t b x s.to_=decide (s.fh+c=all)by simp[onB,hd,hy,hp]]
    simp only[Option.isSome_some,Bool.true_and,Option.getD_some]
    have hw:w64 (s.fh+c)=s.fh+c:=abL (by omega) (by omega)
    simp only[hw]
    rw[nK ho];rfl
  ·rw[List.nil_append,tD,List.filter_map,List.map_map]
   have:((λ(x:ay)=>x.to_)∘λy=>(⟨y,(jU t x y).1⟩:ay))=id:=rfl
   rw[this,List.map_id];rfl
theorem aeX{α:Type}(t:af)(a b:Int)(k:Bool→Option α):(jn k λJ=>bnd (iG t) λ(v1:Bool)=>(bif !v1 then J true else J (decide (a=b))))=k (!decide (jC t=0)||decide (a=b)):=by
 simp only[jn]
 rw[agJ,bn]
 by_cases h:jC t=0<;>simp[h]
theorem abR(h:¬(jC t=0∧a∈ids t∧b∈ids t)):mO t b a=[]:=y4 (abO h)
end Go.Proofs.YtdjeacigeegklaaGreat
namespace Go.Proofs.YtdjeacigeegklaaGreat
set_option linter.all false
open Go
variable {b x:Int}{t:af}
theorem agL(hv:Vt t){y:Int}:y∈mO t b x↔∃w m k,lkC t x y=some w∧dT t y b=some m∧dT t x b=some k∧w+m=k:=by
 unfold mO
 rw[List.mem_filter,sV hv]
 constructor
 ·rintro⟨h1,h2⟩
  unfold onB at h2
  split at h2
  ·rename_i all c e1 e2
   exact⟨_,c,all,nk.2 ⟨h1,rfl⟩,e2,e1,of_decide_eq_true h2⟩
  ·cases h2
 ·rintro⟨w,m,k,h1,h2,h3,h4⟩
  obtain⟨h5,h6⟩:=nk.1 h1
  exact⟨h5,by simp[onB,h2,h3,h6,h4]⟩
theorem aaO(hv:Vt t){y:Int}(h:y∈mO t b x):∃m k,dT t y b=some m∧dT t x b=some k∧m<k:=by
 obtain⟨w,m,k,h1,h2,h3,h4⟩:=(agL hv).1 h
 have:=(yX hv h1).1
 exact⟨m,k,h2,h3,by omega⟩
theorem agM{y:Int}(hv:Vt t)(h:y∈mO t b x):y∈ids t:=by
 obtain⟨m,k,h1,_⟩:=aaO hv h
 exact(yZ h1).2.1
noncomputable def oK(t:af)(b x y:Int):Bool:=match dT t y b,dT t x b with
 |some m,some k=>decide (m<k)
 |_,_=>false
noncomputable def rk(t:af)(b x:Int):Nat:=((ids t).filter (oK t b x)).length
theorem ak6(hv:Vt t){y:Int}(h:y∈mO t b x):rk t b y<rk t b x:=by
 obtain⟨m,k,h1,h2,h3⟩:=aaO hv h
 refine(xE λz hz hq=>?_).2 y (agM hv h) (by simp[oK,h1,h2,h3]) (by simp[oK,h1])
 unfold oK at hq ⊢
 rw[h1]at hq
 rw[h2]
 cases hd:dT t z b with
 |none=>rw[hd]at hq;cases hq
 |some j=>rw[hd]at hq;simp only[decide_eq_true_eq]at hq ⊢;omega
theorem ahX(hv:Vt t)(hb:b∈ids t):rk t b x<(ids t).length:=by
 cases hd:dT t x b with
 |none=>
  have:(ids t).filter (oK t b x)=[]:=by
   rw[List.filter_eq_nil_iff];intro y _;cases h:dT t y b<;>simp[oK,hd,h]
  unfold rk;rw[this];exact List.length_pos_of_mem hb
 |some k=>
  have hx:=(yZ hd).2.1
  have:=(xE (p:=λ_=>true) (q:=oK t b x) (l:=ids t) λ_ _ _=>rfl).2 x hx rfl (by simp[oK,hd])
  rw[List.filter_eq_self.2 λ_ _=>rfl]at this
  exact this
def rtF(f:Int→List Int)(b:Int):Nat→Int→List Int→List Int
 |0,_,_=>[]
 |n+1,x,out=>if x=b then out else match f x with
  |[]=>[]
  |y::_=>rtF f b n y (out++[y])
noncomputable def qv(t:af)(a b:Int):List Int:=rtF (mO t b) b 30 a []
variable {a:Int}
theorem acQ(b:Int){f:Int→List Int}{n:Nat}(h:f a=[])(hab:a≠b)(out:List Int):rtF f b n a out=[]:=by
 cases n with
 |zero=>rfl
 |succ n=>simp[rtF,hab,h]
theorem aaP(h:¬(jC t=0∧a∈ids t∧b∈ids t)):qv t a b=[]:=by
 by_cases hab:a=b
 ·simp[qv,rtF,hab]
 ·exact acQ b (abR h) hab []
theorem adT(t:af)(a b:Int):jS t a b=some (qv t a b):=by
 unfold jS
 refine(aeX t a b _).trans ?_
 by_cases h:jC t=0
 ·have hv:=nj.1 h
  by_cases hab:a=b
  ·subst hab;simp[qv,rtF]
  ·obtain⟨g,h1,h2⟩:=acP hv
   obtain⟨l,h3,h4⟩:=arR hv h2 b
   rw[decide_eq_true h,decide_eq_false hab]
   simp only[Bool.not_true,Bool.or_self,cond_false]
   rw[h1,bn,h3,bn]
   refine Ok.eq ?_
   by_cases hb:b∈ids t
   ·have hlen:=ud hv
    refine Ok.whl (λs=>s.1.length≤30∧∃n,rk t b s.2<n∧n+s.1.length≤30∧rtF (mO t b) b n s.2 s.1=qv t a b) (λs=>rk t b s.2) (s:=([],a)) ⟨by simp,30,by show rk t b a<30;have:=ahX hv (x:=a) hb;omega,by simp,rfl⟩ (by have:=ahX hv (x:=a) hb;simp only;omega) ?_
    rintro⟨out,x⟩ Z ⟨i0,n,i1,i2,i3⟩ hZ
    simp only at i0 i1 i2 i3 hZ ⊢
    refine Ok.cs (λhx=>?_) λhx=>.s ?_
    ·have hxb:x≠b:=by simpa using hx
     rw[abQ hv h2 h4,bn]
     cases hn:mO t b x with
     |nil=>exact .s (by rw[←i3,acQ b hn hxb])
     |cons y r=>
      have hr:=ak6 hv (b:=b) (x:=x) (y:=y) (by rw[hn];simp)
      obtain⟨n,rfl⟩:∃m,n=m+1:=⟨n-1,by omega⟩
      simp only[List.length_cons]
      rw[decide_eq_false (by omega),cond_false]
      simp only[elO]
      rw[if_pos (by decide)]
      simp only[Int.toNat_zero,List.getElem?_cons_zero,bn,nK (show out.length<1000000 by omega)]
      rw[List.length_append]
      simp only[List.length_cons,List.length_nil]
      have hw:w64 (((out.length+(0+1):Nat):Int)-1)=(out.length:Int):=by rw[abL (by omega) (by omega)];omega
      rw[hw,if_pos (by omega)]
      simp only[Int.toNat_natCast]
      rw[List.getElem?_append_right (by omega)]
      simp only[Nat.sub_self,List.getElem?_cons_zero,bn]
      refine hZ (out++[y],y) ⟨by simp;omega,n,by show rk t b y<n;omega,by simp;omega,?_⟩ hr
      rw[←i3];simp[rtF,hxb,hn]
    ·have hxb:x=b:=by simpa using hx
     rw[←i3]
     obtain⟨n,rfl⟩:∃m,n=m+1:=⟨n-1,by omega⟩
     simp[rtF,hxb]
   ·have hn:mO t b a=[]:=abR λe=>hb e.2.2
    refine Ok.whl (λs=>s=([],a)) (λ_=>0) (s:=([],a)) rfl (by decide) ?_
    rintro _ Z rfl hZ
    simp only
    rw[decide_eq_false hab]
    simp only[Bool.not_false,cond_true]
    rw[abQ hv h2 h4,bn,hn]
    refine .s ?_
    rw[aaP λe=>hb e.2.2]
 ·rw[decide_eq_false h,aaP λe=>h e.1];rfl
end Go.Proofs.YtdjeacigeegklaaGreat
