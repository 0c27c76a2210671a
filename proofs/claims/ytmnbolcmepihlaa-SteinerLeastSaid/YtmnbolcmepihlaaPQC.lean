/- Plain: sets of fN as numbers, and what rA reach. No condition but aX aH stand in each. -/
import Derived.Test.YtmnbolcmepihlaaPQA
namespace Go.Proofs.Ytmnbolcmepihlaa
set_option linter.all false
open Go
theorem zf{A:Type}[DecidableEq A]{N:Net A}{a b:List A}(h:a.Perm b):bP N a=bP N b:=by
 induction h with
 |nil=>rfl
 |cons x _ ih=>rw[dA,dA,ih]
 |swap x y l=>rw[dA,dA,dA,dA];omega
 |trans _ _ h1 h2=>rw[h1,h2]
def pk(S:Nat):Nat→List af→List af
 |_,[]=>[]
 |i,a::r=>if S.testBit i then a::pk S (i+1) r else pk S (i+1) r
theorem s7(S:Nat):∀(i:Nat) (l r:List af),pk S i (l++r)=pk S i l++pk S (i+l.length) r
 |i,[],r=>by simp[pk]
 |i,a::l,r=>by
  rw[List.cons_append,pk,pk,s7 S (i+1) l r,List.length_cons,show i+1+l.length=i+(l.length+1)by omega]
  split<;>rfl
theorem nY{S:Nat}:∀{i:Nat} {l:List af} {a:af},a∈pk S i l→a∈l
 |i,[],a,h=>by simp[pk]at h
 |i,b::l,a,h=>by
  rw[pk]at h
  split at h
  ·rcases List.mem_cons.1 h with h|h
   ·simp[h]
   ·simp[nY h]
  ·simp[nY h]
theorem s8(S:Nat):∀(i:Nat) (l:List af),(pk S i l).length≤l.length
 |i,[]=>by simp[pk]
 |i,a::l=>by
  have:=s8 S (i+1) l
  rw[pk]
  split<;>simp<;>omega
theorem uP{S:Nat}(q:af→Bool):∀(i:Nat) (l:List af),(∀j,(h:j<l.length)→S.testBit (i+j)=q l[j])→pk S i l=l.filter q
 |i,[],_=>rfl
 |i,a::l,h=>by
  have h0:=h 0 (by simp)
  simp only[Nat.add_zero,List.getElem_cons_zero]at h0
  have ih:=uP q (i+1) l λj hj=>by
   have:=h (j+1) (by simp;omega)
   rw[show i+1+j=i+(j+1)by omega,this]
   rfl
  rw[pk,h0,ih,List.filter_cons]
theorem agF(q:af→Bool)(l:List af):∃S,S<2 ^ l.length∧pk S 0 l=l.filter q:=by
 obtain⟨S,h1,h2⟩:=qw (λi=>if h:i<l.length then q l[i]else false) l.length
 refine⟨S,h1,uP q 0 l λj hj=>?_⟩
 rw[h2,Nat.zero_add]
 simp[hj]
def jB(v:List Int)(a:af):List Int:=if a.Hop.bf∈v then jA v a.Hop.To else v
def rnd(H:List af)(v:List Int):List Int:=H.foldl jB v
def rounds(H:List af):Nat→List Int→List Int
 |0,v=>v
 |n+1,v=>rounds H n (rnd H v)
theorem wu{v:List Int}{a:af}{x:Int}(h:x∈v):x∈jB v a:=by
 unfold jB;split
 ·exact jP.2 (.inr h)
 ·exact h
theorem ac5{v:List Int}{a:af}(h:v.Pairwise (·<·)):(jB v a).Pairwise (·<·):=by
 unfold jB;split
 ·exact uf h
 ·exact h
theorem aau(v:List Int)(a:af):(jB v a).length≤v.length+1:=by
 unfold jB;split
 ·exact su v _
 ·omega
theorem nZ:∀{H:List af} {v:List Int} {x:Int},x∈v→x∈rnd H v
 |[],_,_,h=>h
 |_::r,_,_,h=>nZ (H:=r) (wu h)
theorem wz:∀{H:List af} {v:List Int},v.Pairwise (·<·)→(rnd H v).Pairwise (·<·)
 |[],_,h=>h
 |_::r,_,h=>wz (H:=r) (ac5 h)
theorem qz:∀(H:List af) (v:List Int),(rnd H v).length≤v.length+H.length
 |[],_=>by simp[rnd]
 |a::r,v=>by
  have h1:=qz r (jB v a)
  have h2:=aau v a
  show(rnd r (jB v a)).length≤_
  simp;omega
theorem wA{root:Int}{K:List af}:∀{H:List af} {v:List Int},(∀a∈H,a∈K)→(∀x∈v,Con aW K root x)→∀x∈rnd H v,Con aW K root x
 |[],_,_,h,x,hx=>h x hx
 |a::r,v,hs,h,x,hx=>by
  refine wA (H:=r) (λb hb=>hs b (by simp[hb])) (λy hy=>?_) x hx
  unfold jB at hy
  split at hy
  ·rename_i hf
   rcases jP.1 hy with rfl|hy
   ·exact(h _ hf).trans (Con.one (N:=aW) (hs a (by simp)))
   ·exact h y hy
  ·exact h y hy
theorem zg:∀{H:List af} {v V:List Int},(∀a∈H,a.Hop.To∈V)→(∀x∈v,x∈V)→∀x∈rnd H v,x∈V
 |[],_,_,_,h,x,hx=>h x hx
 |a::r,v,V,hs,h,x,hx=>by
  refine zg (H:=r) (λb hb=>hs b (by simp[hb])) (λy hy=>?_) x hx
  unfold jB at hy
  split at hy
  ·rcases jP.1 hy with rfl|hy
   ·exact hs a (by simp)
   ·exact h y hy
  ·exact h y hy
theorem zh:∀{H:List af} {v:List Int} {a:af},a∈H→a.Hop.bf∈v→a.Hop.To∈rnd H v
 |b::r,v,a,ha,hf=>by
  rcases List.mem_cons.1 ha with rfl|ha
  ·refine nZ (H:=r) ?_
   unfold jB
   rw[if_pos hf]
   exact jP.2 (.inl rfl)
  ·exact zh (H:=r) ha (wu hf)
theorem s9{H:List af}:∀{n:Nat} {v:List Int} {x:Int},x∈v→x∈rounds H n v
 |0,_,_,h=>h
 |n+1,_,_,h=>s9 (n:=n) (nZ h)
theorem ru{root:Int}{H:List af}:∀{n:Nat} {v:List Int},(∀x∈v,Con aW H root x)→∀x∈rounds H n v,Con aW H root x
 |0,_,h,x,hx=>h x hx
 |n+1,_,h,x,hx=>ru (n:=n) (wA (λa ha=>ha) h) x hx
theorem ry{H:List af}{v:List Int}(h:rnd H v=v):∀n,rounds H n v=v
 |0=>rfl
 |n+1=>by rw[rounds,h,ry h n]
theorem o7{H:List af}{V:List Int}(hV:∀a∈H,a.Hop.To∈V):∀(n:Nat) (v:List Int),v.Pairwise (·<·)→(∀x∈v,x∈V)→V.length≤n+v.length→∀a∈H,a.Hop.bf∈rounds H n v→a.Hop.To∈rounds H n v
 |0,v,h1,h2,h3,a,ha,hf=>by
  simp only[rounds]at hf ⊢
  apply Classical.byContradiction
  intro hn
  have hnd:(a.Hop.To::v).Nodup:=List.nodup_cons.2 ⟨hn,h1.imp λh=>by omega⟩
  have:=uM hnd (b:=V) λx hx=>by
   rcases List.mem_cons.1 hx with rfl|hx
   ·exact hV a ha
   ·exact h2 x hx
  simp at this;omega
 |n+1,v,h1,h2,h3,a,ha,hf=>by
  by_cases hx:∀x∈rnd H v,x∈v
  ·have he:rnd H v=v:=yX (wz h1) h1 λx=>⟨hx x,nZ⟩
   rw[ry he]at hf ⊢
   exact hx _ (zh ha hf)
  ·have:∃x∈rnd H v,x∉v:=by
    apply Classical.byContradiction
    intro hn
    exact hx λx hx=>Classical.byContradiction λh=>hn ⟨x,hx,h⟩
   obtain⟨x,hx1,hx2⟩:=this
   have hnd:(x::v).Nodup:=List.nodup_cons.2 ⟨hx2,h1.imp λh=>by omega⟩
   have:=uM hnd (b:=rnd H v) λy hy=>by
    rcases List.mem_cons.1 hy with rfl|hy
    ·exact hx1
    ·exact nZ hy
   exact o7 hV n (rnd H v) (wz h1) (zg hV h2) (by simp at this;omega) a ha hf
theorem ya{H:List af}{V:List Int}{root:Int}(hr:root∈V)(hV:∀a∈H,a.Hop.To∈V){n:Nat}(hn:V.length≤n+1){x:Int}:x∈rounds H n [root]↔Con aW H root x:=by
 constructor
 ·exact ru (λy hy=>by simp at hy;rw[hy];exact .refl _) x
 ·intro h
  have hc:=o7 hV n [root] (by simp) (by simpa using hr) (by simpa using hn)
  have:∀{y z:Int},Con aW H y z→y∈rounds H n [root]→z∈rounds H n [root]:=λ{y z} h=>by
   induction h with
   |refl v=>exact id
   |step a ha _ ih=>exact λhy=>ih (hc a ha hy)
  exact this h (s9 (by simp))
theorem ta(S k:Nat)(hS:S<2 ^ 59){e:Int}(he:e=(k:Int))(hk:k<60):decide ((0:Int)≤IntKind.wrap .u64 (w64 e))=true∧cQ .and .i64 (Int.fdiv (S:Int) (2 ^ min (IntKind.wrap .u64 (w64 e)).toNat 64)) (1:Int)=if S.testBit k then 1 else 0:=by
 rw[he,cn (by omega) (by omega),wrap_u64 (by omega) (by omega)]
 refine⟨by simp,?_⟩
 rw[Int.toNat_natCast,Nat.min_eq_left (by omega)]
 have e1:((2:Int) ^ k)=((2 ^ k:Nat):Int):=by simp
 rw[e1,Int.fdiv_eq_ediv_of_nonneg _ (Int.natCast_nonneg _),←Int.natCast_ediv]
 have h1:S / 2 ^ k≤S:=Nat.div_le_self _ _
 have:=oR (a:=S / 2 ^ k) (b:=1) (by omega) (by omega)
 rw[show((1:Nat):Int)=1 from rfl]at this
 rw[this,Nat.and_one_is_mod,Nat.testBit_eq_decide_div_mod_eq]
 have:S / 2 ^ k%2=0∨S / 2 ^ k%2=1:=by omega
 rcases this with h|h<;>simp[h]
end Go.Proofs.Ytmnbolcmepihlaa
