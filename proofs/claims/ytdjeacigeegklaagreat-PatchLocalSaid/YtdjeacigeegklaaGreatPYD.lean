/- Plain: trees: the two texts of CheckTree, aq, Bits. No condition but bB aX stand in each. -/
import Derived.Test.YtdjeacigeegklaaGreatPYC
namespace Go.Proofs.YtdjeacigeegklaaGreat
set_option linter.all false
open Go
def ltH(a b:cw):Bool:=decide (a.ez<b.ez)||(decide (a.ez=b.ez)&&decide (a.To<b.To))
inductive Rch(root:Int)(L:List cw):Int→Prop
 |root:Rch root L root
 |step (h:cw):h∈L→Rch root L h.ez→Rch root L h.To
def tL(f:Int→Bool)(L:List cw):Nat:=(L.filter λh=>!f h.To).length
variable {f:Int→Bool}
theorem adZ{g:Int→Bool}(h:∀x,f x=true→g x=true)(L:List cw):tL g L≤tL f L:=by
 unfold tL
 induction L with
 |nil=>simp
 |cons a r ih=>
  simp only[List.filter_cons]
  cases hf:f a.To
  ·cases hg:g a.To<;>simp<;>omega
  ·rw[h _ hf];simpa using ih
theorem ad0{f g:Int→Bool}(h:∀x,f x=true→g x=true){a:cw}:∀{L:List cw},a∈L→f a.To=false→g a.To=true→tL g L<tL f L
 |[],ha,_,_=>by cases ha
 |b::r,ha,h1,h2=>by
  have hle:=adZ h r
  unfold tL at *
  simp only[List.filter_cons]
  rcases List.mem_cons.1 ha with rfl|ha
  ·rw[h1,h2];simp;omega
  ·have ih:=ad0 h ha h1 h2
   unfold tL at ih
   cases hf:f b.To
   ·cases hg:g b.To<;>simp<;>omega
   ·rw[h _ hf];simpa using ih
structure RI(root:Int)(L:List cw)(f:Int→Bool):Prop where
 rt:f root=true
 sub:∀x,f x=true→Rch root L x
structure RJ(root:Int)(L:List cw)(f0:Int→Bool)(p:List cw)(g:Bool)(f:Int→Bool):Prop where
 ri:RI root L f
 up:∀x,f0 x=true→f x=true
 no:g=false→(∀x,f x=f0 x)∧∀h∈p,f h.ez=true→f h.To=true
 yes:g=true→tL f L<tL f0 L
variable {L p:List cw}{f0:Int→Bool}{h:cw}{root:Int}
theorem RJ.add{f':Int→Bool}{g:Bool}(j:RJ root L f0 p g f)(hm:h∈L)(h1:f h.ez=true)(h2:f h.To=false)(hf:∀y,f' y=(decide (y=h.To)||f y)):RJ root L f0 (p++[h]) true f':=by
 have up:∀x,f x=true→f' x=true:=λx hx=>by rw[hf,hx];simp
 have hl:tL f' L<tL f L:=ad0 up hm h2 (by rw[hf];simp)
 refine⟨⟨up _ j.ri.rt,λx hx=>?_⟩,λx hx=>up x (j.up x hx),λh=>(by cases h),λ_=>?_⟩
 ·rw[hf,Bool.or_eq_true,decide_eq_true_eq]at hx
  rcases hx with rfl|hx
  ·exact .step h hm (j.ri.sub _ h1)
  ·exact j.ri.sub x hx
 ·have:=adZ j.up L;omega
theorem RJ.pass{g:Bool}(j:RJ root L f0 p g f)(hn:f h.ez=false∨f h.To=true):RJ root L f0 (p++[h]) g f:=by
 refine⟨j.ri,j.up,λhg=>⟨(j.no hg).1,λx hx hf=>?_⟩,j.yes⟩
 rcases List.mem_append.1 hx with hx|hx
 ·exact(j.no hg).2 x hx hf
 ·simp at hx;subst hx
  rcases hn with hn|hn
  ·rw[hn]at hf;cases hf
  ·exact hn
theorem RI.done(h:RI root L f)(hc:∀x∈L,f x.ez=true→f x.To=true)(x:Int):f x=true↔Rch root L x:=by
 refine⟨h.sub x,λhr=>?_⟩
 induction hr with
 |root=>exact h.rt
 |step y hy _ ih=>exact hc y hy ih
structure Vr(t:mm):Prop where
 rt:1≤t.nq∧t.nq≤99
 rng:∀h∈t.Links,(1≤h.ez∧h.ez≤99)∧1≤h.To∧h.To≤99
 asc:t.Links.Pairwise λa b=>ltH a b=true
 dup:t.Links.Pairwise λa b=>a.To≠b.To
 nrt:∀h∈t.Links,h.To≠t.nq
 rch:∀h∈t.Links,Rch t.nq t.Links h.ez
theorem agd(a b c:cw)(h1:ltH a b=true)(h2:ltH b c=true):ltH a c=true:=by
 simp[ltH]at *;omega
end Go.Proofs.YtdjeacigeegklaaGreat
