/- Plain: trees: the two texts of CheckTree, ah, Bits. No condition but bO bx stand in each. -/
import Derived.Test.YtdjeacigeegklaaGreatPYC
namespace Go.Proofs.YtdjeacigeegklaaGreat
set_option linter.all false
open Go
def ltH(a b:bU):Bool:=decide (a.dF<b.dF)||(decide (a.dF=b.dF)&&decide (a.To<b.To))
inductive Rch(root:Int)(L:List bU):Int→Prop
 |root:Rch root L root
 |step (h:bU):h∈L→Rch root L h.dF→Rch root L h.To
def wP(f:Int→Bool)(L:List bU):Nat:=(L.filter λh=>!f h.To).length
variable {f:Int→Bool}
theorem agH{g:Int→Bool}(h:∀x,f x=true→g x=true)(L:List bU):wP g L≤wP f L:=by
 unfold wP
 induction L with
 |nil=>simp
 |cons a r ih=>
  simp only[List.filter_cons]
  cases hf:f a.To
  ·cases hg:g a.To<;>simp<;>omega
  ·rw[h _ hf];simpa using ih
theorem agI{f g:Int→Bool}(h:∀x,f x=true→g x=true){a:bU}:∀{L:List bU},a∈L→f a.To=false→g a.To=true→wP g L<wP f L
 |[],ha,_,_=>by cases ha
 |b::r,ha,h1,h2=>by
  have hle:=agH h r
  unfold wP at *
  simp only[List.filter_cons]
  rcases List.mem_cons.1 ha with rfl|ha
  ·rw[h1,h2];simp;omega
  ·have ih:=agI h ha h1 h2
   unfold wP at ih
   cases hf:f b.To
   ·cases hg:g b.To<;>simp<;>omega
   ·rw[h _ hf];simpa using ih
structure RI(root:Int)(L:List bU)(f:Int→Bool):Prop where
 rt:f root=true
 sub:∀x,f x=true→Rch root L x
structure RJ(root:Int)(L:List bU)(f0:Int→Bool)(p:List bU)(g:Bool)(f:Int→Bool):Prop where
 ri:RI root L f
 up:∀x,f0 x=true→f x=true
 no:g=false→(∀x,f x=f0 x)∧∀h∈p,f h.dF=true→f h.To=true
 yes:g=true→wP f L<wP f0 L
variable {L p:List bU}{f0:Int→Bool}{h:bU}{root:Int}
theorem RJ.add{f':Int→Bool}{g:Bool}(j:RJ root L f0 p g f)(hm:h∈L)(h1:f h.dF=true)(h2:f h.To=false)(hf:∀y,f' y=(decide (y=h.To)||f y)):RJ root L f0 (p++[h]) true f':=by
 have up:∀x,f x=true→f' x=true:=λx hx=>by rw[hf,hx];simp
 have hl:wP f' L<wP f L:=agI up hm h2 (by rw[hf];simp)
 refine⟨⟨up _ j.ri.rt,λx hx=>?_⟩,λx hx=>up x (j.up x hx),λh=>(by cases h),λ_=>?_⟩
 ·rw[hf,Bool.or_eq_true,decide_eq_true_eq]at hx
  rcases hx with rfl|hx
  ·exact .step h hm (j.ri.sub _ h1)
  ·exact j.ri.sub x hx
 ·have:=agH j.up L;omega
theorem RJ.pass{g:Bool}(j:RJ root L f0 p g f)(hn:f h.dF=false∨f h.To=true):RJ root L f0 (p++[h]) g f:=by
 refine⟨j.ri,j.up,λhg=>⟨(j.no hg).1,λx hx hf=>?_⟩,j.yes⟩
 rcases List.mem_append.1 hx with hx|hx
 ·exact(j.no hg).2 x hx hf
 ·simp at hx;subst hx
  rcases hn with hn|hn
  ·rw[hn]at hf;cases hf
  ·exact hn
theorem RI.done(h:RI root L f)(hc:∀x∈L,f x.dF=true→f x.To=true)(x:Int):f x=true↔Rch root L x:=by
 refine⟨h.sub x,λhr=>?_⟩
 induction hr with
 |root=>exact h.rt
 |step y hy _ ih=>exact hc y hy ih
structure Vr(t:oZ):Prop where
 rt:1≤t.qd∧t.qd≤99
 rng:∀h∈t.Links,(1≤h.dF∧h.dF≤99)∧1≤h.To∧h.To≤99
 asc:t.Links.Pairwise λa b=>ltH a b=true
 dup:t.Links.Pairwise λa b=>a.To≠b.To
 nrt:∀h∈t.Links,h.To≠t.qd
 rch:∀h∈t.Links,Rch t.qd t.Links h.dF
theorem aiU(a b c:bU)(h1:ltH a b=true)(h2:ltH b c=true):ltH a c=true:=by
 simp[ltH]at *;omega
end Go.Proofs.YtdjeacigeegklaaGreat
