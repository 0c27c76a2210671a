/- Several texts in one. No condition but those that stand in each. -/
import Derived.Test.YtmnbolcmepihlaaGreatPM
namespace Go.Proofs.YtmnbolcmepihlaaGreat
set_option linter.all false
open Go
abbrev yQ:=Int→Int→Option Int
inductive ot(c:yQ)(a:Int):Int→Int→Prop
 |nil:ot c a a 0
 |snoc {x b m k:Int}:ot c a x m→c x b=some k→ot c a b (m+k)
theorem ot.trans{c:yQ}{a x b m n:Int}(h:ot c a x m)(dc:ot c x b n):ot c a b (m+n):=by
 induction dc with
 |nil=>simpa using h
 |snoc _ hk bD=>rw[←Int.add_assoc];exact .snoc bD hk
theorem ot.one{c:yQ}{a b k:Int}(h:c a b=some k):ot c a b k:=by have:=ot.snoc (.nil:ot c a a 0) h;simpa using this
def Vd(c:yQ)(a b k:Int):Prop:=ot c a b k∧∀m,ot c a b m→k≤m
open Classical in
noncomputable def dst(c:yQ)(a b:Int):Option Int:=if h:∃k,Vd c a b k then some (Classical.choose h)else none
def Fv(t:b0):yQ:=λx y=>if wZ t x y then some (q5 t x y).1 else none
theorem XQ{t:b0}{x y k:Int}:Fv t x y=some k↔wZ t x y=true∧(q5 t x y).1=k:=by
 unfold Fv;split
 ·rename_i h;simp[h]
 ·rename_i h;simp[h]
theorem aag{t:b0}(af:h6 t){x y k:Int}(h:Fv t x y=some k):x∈ids t∧y∈ids t:=by
 obtain⟨h1,_⟩:=XQ.1 h;exact⟨MC af (Nb h1),MC af h1⟩
theorem ot.ids{t:b0}(af:h6 t){a b m:Int}(h:ot (Fv t) a b m)(aC:a∈ids t):b∈ids t:=by
 cases h with
 |nil=>exact aC
 |snoc _ hk=>exact(aag af hk).2
end Go.Proofs.YtmnbolcmepihlaaGreat
