/- Several texts in one. No condition but those that stand in each. -/
import Derived.Test.YtmnbolcmepihlaaGreatPM
namespace Go.Proofs.YtmnbolcmepihlaaGreat
set_option linter.all false
open Go
abbrev Cst:=Int→Int→Option Int
def Pos(c:Cst):Prop:=∀x y k,c x y=some k→1≤k
def y6(c:Cst):Cst:=λx y=>c y x
variable {c:Cst}
theorem Pos.rev(h:Pos c):Pos (y6 c):=λx y k hk=>h y x k hk
inductive Wk(c:Cst)(a:Int):Int→Int→Prop
 |nil:Wk c a a 0
 |snoc {x b m k:Int}:Wk c a x m→c x b=some k→Wk c a b (m+k)
variable {a b m:Int}
theorem Wk.adj(hc:Pos c)(h:Wk c a b m):0≤m:=by
 induction h with
 |nil=>omega
 |snoc _ hk ih=>have:=hc _ _ _ hk;omega
variable {x:Int}
theorem Wk.trans{n:Int}(h:Wk c a x m)(h':Wk c x b n):Wk c a b (m+n):=by
 induction h' with
 |nil=>simpa using h
 |snoc _ hk ih=>rw[←Int.add_assoc];exact .snoc ih hk
variable {k:Int}
theorem Wk.one(h:c a b=some k):Wk c a b k:=by have:=Wk.snoc (.nil:Wk c a a 0) h;simpa using this
theorem Wk.rev(h:Wk c a b m):Wk (y6 c) b a m:=by
 induction h with
 |nil=>exact .nil
 |@snoc x b m k _ hk ih=>
  have h1:Wk (y6 c) b x k:=.one hk;have:=h1.trans ih
  rwa [Int.add_comm]at this
theorem Wk.ajU(h:Wk (y6 c) a b m):Wk c b a m:=h.rev
def IsD(c:Cst)(a b k:Int):Prop:=Wk c a b k∧∀m,Wk c a b m→k≤m
theorem IsD.uniq(h:IsD c a b k)(h':IsD c a b m):k=m:=by
 have:=h.2 _ h'.1;have:=h'.2 _ h.1;omega
theorem agA(hc:Pos c)(h:Wk c a b m):∃k,IsD c a b k∧k≤m:=by
 have key:∀(n:Nat) (m:Int),m.toNat=n→Wk c a b m→∃k,IsD c a b k∧k≤m:=by
  intro n;induction n using Nat.strongRecOn with
  |_ n ih=>
   intro m hn h;by_cases hmin:∀m',Wk c a b m'→m≤m'
   ·exact⟨m,⟨h,hmin⟩,Int.le_refl _⟩
   ·have hmin:∃m',Wk c a b m'∧¬m≤m':=by
     refine Classical.byContradiction λhn=>hmin λm' h=>?_;by_cases hle:m≤m'
     ·exact hle
     ·exact absurd ⟨m',h,hle⟩ hn
    obtain⟨m',h1,h2⟩:=hmin;have h3:=h1.adj hc;obtain⟨k,k1,k2⟩:=ih m'.toNat (by omega) m' rfl h1;exact⟨k,k1,by omega⟩
 exact key _ m rfl h
open Classical in
noncomputable def dst(c:Cst)(a b:Int):Option Int:=if h:∃k,IsD c a b k then some (Classical.choose h)else none
theorem gR:dst c a b=some k↔IsD c a b k:=by
 unfold dst;constructor
 ·intro h;split at h
  ·rename_i hx;cases h;exact Classical.choose_spec hx
  ·cases h
 ·intro h;rw[dif_pos ⟨k,h⟩];exact congrArg some ((Classical.choose_spec (⟨k,h⟩:∃k,IsD c a b k)).uniq h)
theorem aiF(hc:Pos c):dst c a b=none↔∀m,¬Wk c a b m:=by
 constructor
 ·intro h m hm;obtain⟨k,h1,_⟩:=agA hc hm;rw[gR.2 h1]at h;cases h
 ·intro h;cases hd:dst c a b with
  |none=>rfl
  |some k=>exact absurd (gR.1 hd).1 (h k)
theorem apO(hc:Pos c)(h:Wk c a b m):∃k,dst c a b=some k∧k≤m:=by
 obtain⟨k,h1,h2⟩:=agA hc h;exact⟨k,gR.2 h1,h2⟩
theorem vF(hc:Pos c)(h:dst c a b=some k):0≤k:=(gR.1 h).1.adj hc
theorem ad7:IsD (y6 c) a b k↔IsD c b a k:=
 ⟨λh=>⟨h.1.ajU,λm hm=>h.2 m hm.rev⟩,λh=>⟨h.1.rev,λm hm=>h.2 m hm.ajU⟩⟩
theorem ad8(a b:Int):dst (y6 c) a b=dst c b a:=by
 cases h:dst c b a with
 |some k=>exact gR.2 (ad7.2 (gR.1 h))
 |none=>
  cases h':dst (y6 c) a b with
  |none=>rfl
  |some k=>rw[gR.2 (ad7.1 (gR.1 h'))]at h;cases h
theorem aiG(h:dst c a b=some k)(hne:a≠b):∃x w m,dst c a x=some m∧c x b=some w∧k=m+w:=by
 obtain⟨h1,h2⟩:=gR.1 h;cases h1 with
 |nil=>exact absurd rfl hne
 |@snoc x b m w hx hw=>exact⟨x,w,m,gR.2 ⟨hx,λm' h'=>by have:=h2 _ (.snoc h' hw);omega⟩,hw,rfl⟩
theorem agB(h:dst c a b=some k)(hne:a≠b):∃x w m,c a x=some w∧dst c x b=some m∧k=w+m:=by
 rw[←ad8]at h;obtain⟨x,w,m,h1,h2,h3⟩:=aiG h (Ne.symm hne);rw[ad8]at h1;exact⟨x,w,m,h2,h1,by omega⟩
def lkC(t:af):Cst:=λx y=>if vC t x y then some (fU t x y).1 else none
variable {t:af}
theorem abB(hv:Vt t){y:Int}(h:vC t x y=true):1≤(fU t x y).1∧(fU t x y).1≤1000:=by
 obtain⟨l,h1,h2⟩:=ql.1 h;have he:fK l x y=true:=by simp[fK];exact h2
 rw[ny hv h1 he];have:=hv.okl l h1;simp only[nQ,Bool.or_eq_false_iff,Bool.not_eq_false',rM,Bool.and_eq_true,decide_eq_true_eq]at this;unfold j9;by_cases hb:(decide (l.A=x)&&decide (l.B=y))=true
 ·simp only[hb,cond_true];omega
 ·simp only[Bool.not_eq_true]at hb;simp only[hb,cond_false];omega
theorem rV(hv:Vt t):Pos (lkC t):=λx y k h=>by
 unfold lkC at h;split at h
 ·rename_i ha;cases h;exact(abB hv ha).1
 ·cases h
theorem nB{y:Int}:lkC t x y=some k↔vC t x y=true∧(fU t x y).1=k:=by
 unfold lkC;split
 ·rename_i h;simp[h]
 ·rename_i h;simp[h]
theorem zZ(hv:Vt t){y:Int}(h:lkC t x y=some k):1≤k∧k≤1000:=by
 obtain⟨h1,rfl⟩:=nB.1 h;exact abB hv h1
theorem rW(hv:Vt t){y:Int}(h:lkC t x y=some k):x∈ids t∧y∈ids t:=by
 obtain⟨h1,_⟩:=nB.1 h;exact⟨aaQ hv (ac9 h1),aaQ hv h1⟩
theorem Wk.ids{t:af}(hv:Vt t){a b m:Int}(h:Wk (lkC t) a b m)(ha:a∈ids t):b∈ids t:=by
 cases h with
 |nil=>exact ha
 |snoc _ hk=>exact(rW hv hk).2
end Go.Proofs.YtmnbolcmepihlaaGreat
