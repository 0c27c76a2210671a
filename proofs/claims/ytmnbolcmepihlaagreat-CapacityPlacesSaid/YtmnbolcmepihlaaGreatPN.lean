/- Several texts in one. No condition but those that stand in each. -/
import Derived.Test.YtmnbolcmepihlaaGreatPM
namespace Go.Proofs.YtmnbolcmepihlaaGreat
set_option linter.all false
open Go
abbrev Cst:=Int→Int→Option Int
inductive Wk(c:Cst)(a:Int):Int→Int→Prop
 |nil:Wk c a a 0
 |snoc {x b m k:Int}:Wk c a x m→c x b=some k→Wk c a b (m+k)
theorem Wk.trans{c:Cst}{a x b m n:Int}(h:Wk c a x m)(h':Wk c x b n):Wk c a b (m+n):=by
 induction h' with
 |nil=>simpa using h
 |snoc _ hk ih=>rw[←Int.add_assoc];exact .snoc ih hk
theorem Wk.one{c:Cst}{a b k:Int}(h:c a b=some k):Wk c a b k:=by have:=Wk.snoc (.nil:Wk c a a 0) h;simpa using this
def IsD(c:Cst)(a b k:Int):Prop:=Wk c a b k∧∀m,Wk c a b m→k≤m
open Classical in
noncomputable def dst(c:Cst)(a b:Int):Option Int:=if h:∃k,IsD c a b k then some (Classical.choose h)else none
def lkC(t:ai):Cst:=λx y=>if xC t x y then some (gl t x y).1 else none
theorem aiS{t:ai}{x y k:Int}:lkC t x y=some k↔xC t x y=true∧(gl t x y).1=k:=by
 unfold lkC;split
 ·rename_i h;simp[h]
 ·rename_i h;simp[h]
theorem al3{t:ai}(hv:Vt t){x y k:Int}(h:lkC t x y=some k):x∈ids t∧y∈ids t:=by
 obtain⟨h1,_⟩:=aiS.1 h;exact⟨aaZ hv (adf h1),aaZ hv h1⟩
theorem Wk.ids{t:ai}(hv:Vt t){a b m:Int}(h:Wk (lkC t) a b m)(ha:a∈ids t):b∈ids t:=by
 cases h with
 |nil=>exact ha
 |snoc _ hk=>exact(al3 hv hk).2
end Go.Proofs.YtmnbolcmepihlaaGreat
