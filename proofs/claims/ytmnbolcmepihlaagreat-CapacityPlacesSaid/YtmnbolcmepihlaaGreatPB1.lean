/- Several texts in one. No condition but those that stand in each. -/
import Derived.Test.YtmnbolcmepihlaaGreatPA1
import Derived.Test.YtmnbolcmepihlaaGreatWX
import Derived.Test.YtmnbolcmepihlaaGreatPN
import Derived.Test.YtmnbolcmepihlaaGreatDLC
namespace Go.Proofs.YtmnbolcmepihlaaGreat
set_option linter.all false
open Go
section
theorem apO(l:List Int)(hl:l.length≤1000000):iw l=some (gW (λa b=>decide (a<b)) l):=by
 unfold iw
 refine(nF (λa b:Int=>decide (a<b)) (some false) (λj x y r q s Z hL hj=>by
  simp only[mz hL hj (by omega),aI];by_cases h:y<x
  ·have:¬x≤y:=by omega
   simp[h,this]
  ·have:x≤y:=by omega
   simp[h,this]) _).trans ?_
 cases gW (λa b:Int=>decide (a<b)) l<;>rfl
def gC(l:bk):List ah:=[ah.mk (az.mk l.A l.B) l.eZ,ah.mk (az.mk l.B l.A) l.gj]
def fC(g:ai):List ah:=g.Links.flatMap gC
theorem adn{α γ β:Type}{B:Int→α→(List γ→Option β)→List γ→Option β}{K:List γ→Option β}(f:α→List γ)(hB:∀j x Z s,B j x Z s=bnd (gn s (f x)) λl=>Z l)(k:Nat)(hk:∀x,(f x).length≤k):∀(l:List α) (j:Nat) (s:List γ),s.length+k*l.length≤1000000→bJ l j B K s=K (s++l.flatMap f)
 |[],j,s,_=>by simp[bJ]
 |x::r,j,s,h=>by
  have:=hk x;simp only[List.length_cons,Nat.mul_add,Nat.mul_one]at h;rw[bJ,hB,jv (by omega),aI,adn f hB k hk r (j+1) _ (by simp;omega)];simp
theorem mA{g:ai}{a:ah}:a∈fC g↔∃l∈g.Links,a=ah.mk (az.mk l.A l.B) l.eZ∨a=ah.mk (az.mk l.B l.A) l.gj:=by
 simp[fC,gC]
theorem agO{a b:az}(h:a≠b):cZ [λx:az=>x.aD,λx:az=>x.To] a b<0∨cZ [λx:az=>x.aD,λx:az=>x.To] b a<0:=by
 rw[gq,gq,gq,gq];have h2:a.aD≠b.aD∨a.To≠b.To:=by
  apply Classical.byContradiction;intro hn;have e1:a.aD=b.aD:=Classical.byContradiction λx=>hn (.inl x);have e2:a.To=b.To:=Classical.byContradiction λx=>hn (.inr x);apply h;cases a;cases b
  simp only at e1 e2;rw[e1,e2]
 simp only[cZ];omega
theorem aa3{g:ai}(hv:Vt g):(fC g).Pairwise λa b=>a.Hop≠b.Hop:=by
 unfold fC;rw[List.pairwise_flatMap];refine⟨λl hl=>?_,hv.ada.imp_of_mem λ{a b} ha hb hab=>?_⟩
 ·have:=hv.lt l hl;simp only[gC,List.pairwise_cons,List.mem_cons,List.not_mem_nil,or_false,forall_eq,List.Pairwise.nil,and_true,false_imp_iff,implies_true];intro h;injection h with h1 h2
  omega
 ·have h1:=hv.lt a ha;have h2:=hv.lt b hb;simp only[ltL,Bool.or_eq_true,Bool.and_eq_true,decide_eq_true_eq]at hab;intro x hx y hy;simp only[gC,List.mem_cons,List.not_mem_nil,or_false]at hx hy;rcases hx with rfl|rfl<;>rcases hy with rfl|rfl<;>(simp only;intro h;injection h with h3 h4;omega)
theorem aiQ{l:bk}(h:oJ l=false):(1≤l.eZ∧l.eZ≤1000)∧1≤l.gj∧l.gj≤1000:=by
 simp only[oJ,tC,Bool.or_eq_false_iff,Bool.not_eq_false',Bool.and_eq_true,decide_eq_true_eq]at h;exact⟨h.1.1.1,h.1.1.2⟩
theorem oM(g:ai):(fC g).length=2*g.Links.length:=by
 unfold fC;induction g.Links with
 |nil=>rfl
 |cons a r ih=>rw[List.flatMap_cons,List.length_append,ih];simp[gC];omega
theorem agP{α γ:Type}{f:α→γ}:∀{l:List α},(l.Pairwise λa b=>f a≠f b)→∀a∈l,∀b∈l,f a=f b→a=b
 |[],_,a,ha,_,_,_=>by cases ha
 |x::r,h,a,ha,b,hb,e=>by
  rw[List.pairwise_cons]at h;rcases List.mem_cons.1 ha with h1|h1<;>rcases List.mem_cons.1 hb with h2|h2
  ·rw[h1,h2]
  ·subst h1;exact absurd e (h.1 b h2)
  ·subst h2;exact absurd e.symm (h.1 a h1)
  ·exact agP h.2 a h1 b h2 e
theorem aa4{g:ai}(hv:Vt g):iW (fC g):=by
 refine⟨λa ha=>?_,λa ha=>?_,agP (aa3 hv),?_⟩
 ·obtain⟨l,hl,h⟩:=mA.1 ha;have:=aiQ (hv.okl l hl);rcases h with rfl|rfl<;>(simp only;omega)
 ·obtain⟨l,hl,h⟩:=mA.1 ha;have h1:=hv.ends l hl;have h2:=sQ.1 h1.1;have h3:=sQ.1 h1.2;obtain⟨x,hx,hx2⟩:=h2;obtain⟨y,hy,hy2⟩:=h3;have h4:=hv.idr x hx;have h5:=hv.idr y hy;rcases h with rfl|rfl<;>(simp only;omega)
 ·have:=hv.nl;rw[oM];omega
theorem asL{g:ai}(hv:Vt g):∃m,pU g=some m∧m.Perm (fC g):=by
 have hnl:=hv.nl;have hlen:=oM g;obtain⟨m,h1,h2,h3⟩:=xd (ks:=[λx:ah=>x.Hop.aD,λx:ah=>x.Hop.To]) (l:=fC g) ((aa3 hv).imp λ{a b} h=>agO h) (by omega);refine⟨m,?_,h2⟩;unfold pU;refine(adn gC (λj x Z s=>rfl) 2 (λx=>Nat.le_refl _) _ _ _ (by simp;omega)).trans ?_;rw[List.nil_append];show bnd (jO _ (fC g)) _=_;rw[h1];rfl
variable {a b:List ah}
theorem aa5(h:a.Perm b)(hb:iW b):iW a:=⟨λx hx=>hb.cost x (h.mem_iff.1 hx),λx hx=>hb.to x (h.mem_iff.1 hx),λx hx y hy=>hb.hop x (h.mem_iff.1 hx) y (h.mem_iff.1 hy),by rw[h.length_eq];exact hb.len⟩
variable {T:Int→Prop}
theorem Opt.same{A:Type}[DecidableEq A]{N:Net A}{L L':List A}(hs:∀a,a∈L↔a∈L'){v:Int}{H:List A}(h:Opt N L T v H):Opt N L' T v H:=
 ⟨λa ha=>(hs a).1 (h.sub a ha),λa ha=>h.pos a ((hs a).2 ha),h.cov,λK hK=>h.min K λa ha=>(hs a).2 (hK a ha)⟩
theorem apP{A:Type}[DecidableEq A]{N:Net A}{L:List A}{v:Int}(hp:∀a∈L,0<N.cost a)(hc:∀t,T t→Con N L v t):∃H,Opt N L T v H:=by
 have:∀(n:Nat) (K:List A),(∀a∈K,a∈L)→(∀t,T t→Con N K v t)→dG N K≤n→∃H,Opt N L T v H:=by
  intro n;induction n with
  |zero=>
   intro K h1 h2 h3;refine⟨K,h1,hp,h2,λK' h4 _=>?_⟩;have:0≤dG N K':=tT λa ha=>by have:=hp a (h4 a ha);omega
   simp only[Int.ofNat_zero]at h3;omega
  |succ n ih=>
   intro K h1 h2 h3;by_cases hx:∃K',(∀a∈K',a∈L)∧(∀t,T t→Con N K' v t)∧dG N K'<dG N K
   ·obtain⟨K',g1,g2,g3⟩:=hx;exact ih K' g1 g2 (by omega)
   ·refine⟨K,h1,hp,h2,λK' h4 h5=>?_⟩;apply Classical.byContradiction;intro hlt;exact hx ⟨K',h4,h5,by omega⟩
 exact this (dG N L).toNat L (λa ha=>ha) hc (by omega)
variable {ts:List Int}
theorem agQ(h:a.Perm b){root:Int}{hs:List az}{c:Int}(hb:mW a root ts hs c):mW b root ts hs c:=by
 obtain⟨⟨Hs,h1,h2,h3⟩,h4⟩:=hb;exact⟨⟨Hs,h1.same λa=>h.mem_iff,h2,h3⟩,h4⟩
variable {ay:List ah}
theorem aiR{Hs:List ah}(hA:iW ay)(h:∀a∈Hs,a∈ay):(Hs.length:Int)≤dG bz Hs:=(kJ λa ha=>hA.cost a (h a ha)).1
theorem al1(hA:iW ay){root:Int}(hc:∀t,t∈ts→Con bz ay root t):∃hs c,mW ay root ts hs c:=by
 obtain⟨Hs,hO⟩:=apP (N:=bz) (L:=ay) (T:=λt=>t∈ts) (λa ha=>by have:=(hA.cost a ha).1;show 0<a.dx;omega) hc;have h1:=aiR hA hO.sub;have h2:=hO.min ay (λa ha=>ha) hc;have h3:=(kJ hA.cost).2;have h4:=hA.len;obtain⟨m,_,g2,g3⟩:=yZ hA hO (by omega);exact⟨m,_,⟨Hs,hO,rfl,g2⟩,g3⟩
end
section
def pk(S:Nat):Nat→List ah→List ah
 |_,[]=>[]
 |i,a::r=>if S.testBit i then a::pk S (i+1) r else pk S (i+1) r
def oN(v:List Int)(a:ah):List Int:=if a.Hop.aD∈v then jV v a.Hop.To else v
def rnd(H:List ah)(v:List Int):List Int:=H.foldl oN v
def rounds(H:List ah):Nat→List Int→List Int
 |0,v=>v
 |n+1,v=>rounds H n (rnd H v)
theorem ado{v:List Int}{a:ah}{x:Int}(h:x∈v):x∈oN v a:=by
 unfold oN;split
 ·exact nG.2 (.inr h)
 ·exact h
theorem al2{v:List Int}{a:ah}(h:v.Pairwise (·<·)):(oN v a).Pairwise (·<·):=by
 unfold oN;split
 ·exact xZ h
 ·exact h
theorem adp(v:List Int)(a:ah):(oN v a).length≤v.length+1:=by
 unfold oN;split
 ·exact sR v _
 ·omega
theorem uA:∀{H:List ah} {v:List Int} {x:Int},x∈v→x∈rnd H v
 |[],_,_,h=>h
 |_::r,_,_,h=>uA (H:=r) (ado h)
theorem adq:∀{H:List ah} {v:List Int},v.Pairwise (·<·)→(rnd H v).Pairwise (·<·)
 |[],_,h=>h
 |_::r,_,h=>adq (H:=r) (al2 h)
theorem aa6:∀(H:List ah) (v:List Int),(rnd H v).length≤v.length+H.length
 |[],_=>by simp[rnd]
 |a::r,v=>by
  have h1:=aa6 r (oN v a);have h2:=adp v a;show(rnd r (oN v a)).length≤_;simp;omega
theorem adr{root:Int}{K:List ah}:∀{H:List ah} {v:List Int},(∀a∈H,a∈K)→(∀x∈v,Con bz K root x)→∀x∈rnd H v,Con bz K root x
 |[],_,_,h,x,hx=>h x hx
 |a::r,v,hs,h,x,hx=>by
  refine adr (H:=r) (λb hb=>hs b (by simp[hb])) (λy hy=>?_) x hx;unfold oN at hy;split at hy
  ·rename_i hf;rcases nG.1 hy with rfl|hy
   ·exact(h _ hf).trans (Con.one (N:=bz) (hs a (by simp)))
   ·exact h y hy
  ·exact h y hy
theorem agR:∀{H:List ah} {v V:List Int},(∀a∈H,a.Hop.To∈V)→(∀x∈v,x∈V)→∀x∈rnd H v,x∈V
 |[],_,_,_,h,x,hx=>h x hx
 |a::r,v,V,hs,h,x,hx=>by
  refine agR (H:=r) (λb hb=>hs b (by simp[hb])) (λy hy=>?_) x hx;unfold oN at hy;split at hy
  ·rcases nG.1 hy with rfl|hy
   ·exact hs a (by simp)
   ·exact h y hy
  ·exact h y hy
theorem agS:∀{H:List ah} {v:List Int} {a:ah},a∈H→a.Hop.aD∈v→a.Hop.To∈rnd H v
 |b::r,v,a,ha,hf=>by
  rcases List.mem_cons.1 ha with rfl|ha
  ·refine uA (H:=r) ?_;unfold oN;rw[if_pos hf];exact nG.2 (.inl rfl)
  ·exact agS (H:=r) ha (ado hf)
theorem aag{H:List ah}:∀{n:Nat} {v:List Int} {x:Int},x∈v→x∈rounds H n v
 |0,_,_,h=>h
 |n+1,_,_,h=>aag (n:=n) (uA h)
theorem yE{root:Int}{H:List ah}:∀{n:Nat} {v:List Int},(∀x∈v,Con bz H root x)→∀x∈rounds H n v,Con bz H root x
 |0,_,h,x,hx=>h x hx
 |n+1,_,h,x,hx=>yE (n:=n) (adr (λa ha=>ha) h) x hx
theorem yF{H:List ah}{v:List Int}(h:rnd H v=v):∀n,rounds H n v=v
 |0=>rfl
 |n+1=>by rw[rounds,h,yF h n]
theorem wg{H:List ah}{V:List Int}(hV:∀a∈H,a.Hop.To∈V):∀(n:Nat) (v:List Int),v.Pairwise (·<·)→(∀x∈v,x∈V)→V.length≤n+v.length→∀a∈H,a.Hop.aD∈rounds H n v→a.Hop.To∈rounds H n v
 |0,v,h1,h2,h3,a,ha,hf=>by
  simp only[rounds]at hf ⊢;apply Classical.byContradiction;intro hn;have hnd:(a.Hop.To::v).Nodup:=List.nodup_cons.2 ⟨hn,h1.imp λh=>by omega⟩
  have:=abG hnd (b:=V) λx hx=>by
   rcases List.mem_cons.1 hx with rfl|hx
   ·exact hV a ha
   ·exact h2 x hx
  simp at this;omega
 |n+1,v,h1,h2,h3,a,ha,hf=>by
  by_cases hx:∀x∈rnd H v,x∈v
  ·have he:rnd H v=v:=xA (adq h1) h1 λx=>⟨hx x,uA⟩;rw[yF he]at hf ⊢;exact hx _ (agS ha hf)
  ·have:∃x∈rnd H v,x∉v:=by
    apply Classical.byContradiction;intro hn;exact hx λx hx=>Classical.byContradiction λh=>hn ⟨x,hx,h⟩
   obtain⟨x,hx1,hx2⟩:=this;have hnd:(x::v).Nodup:=List.nodup_cons.2 ⟨hx2,h1.imp λh=>by omega⟩
   have:=abG hnd (b:=rnd H v) λy hy=>by
    rcases List.mem_cons.1 hy with rfl|hy
    ·exact hx1
    ·exact uA hy
   exact wg hV n (rnd H v) (adq h1) (agR hV h2) (by simp at this;omega) a ha hf
theorem afy{H:List ah}{V:List Int}{root:Int}(hr:root∈V)(hV:∀a∈H,a.Hop.To∈V){n:Nat}(hn:V.length≤n+1){x:Int}:x∈rounds H n [root]↔Con bz H root x:=by
 constructor
 ·exact yE (λy hy=>by simp at hy;rw[hy];exact .refl _) x
 ·intro h;have hc:=wg hV n [root] (by simp) (by simpa using hr) (by simpa using hn)
  have:∀{y z:Int},Con bz H y z→y∈rounds H n [root]→z∈rounds H n [root]:=λ{y z} h=>by
   induction h with
   |refl v=>exact id
   |step a ha _ ih=>exact λhy=>ih (hc a ha hy)
  exact this h (aag (by simp))
end
section
theorem aa7{f:Int→Int}:∀(b:List Int) (i:Nat),i<b.length→∀x,((b.set i x).map f).sum=(b.map f).sum-f (b.getD i 0)+f x
 |[],_,h,_=>by simp at h
 |y::b,0,_,x=>by simp;omega
 |y::b,i+1,h,x=>by
  have:=aa7 (f:=f) b i (by simpa using h) x;simp only[List.set_cons_succ,List.map_cons,List.sum_cons,List.getD_cons_succ];omega
theorem aa8{f:Int→Int}{m:Int}(h:∀x,0≤f x∧f x≤m):∀b:List Int,0≤(b.map f).sum∧(b.map f).sum≤m*b.length
 |[]=>by simp
 |y::b=>by
  have h1:=aa8 h b;have h2:=h y;simp only[List.map_cons,List.sum_cons,List.length_cons,Int.natCast_add,Int.mul_add];omega
theorem rX{b:List Int}{i:Nat}(hi:i<b.length)(x:Int)(v:Nat):(b.set i x).getD v 0=if v=i then x else b.getD v 0:=by
 rw[List.getD_eq_getElem?_getD,List.getD_eq_getElem?_getD,List.getElem?_set];by_cases h:v=i
 ·subst h;simp[hi]
 ·rw[if_neg h,if_neg λe=>h e.symm]
abbrev FAR:Int:=1099511627776
def rH(x:Int):Int:=if x<FAR then 1 else 0
def xE(x:Int):Int:=if x<FAR then(if x<0 then 0 else if x<4000000 then x else 4000000)else 5000000
def fin(b:List Int):Int:=(b.map rH).sum
theorem uB(b:List Int):0≤fin b∧fin b≤b.length:=by
 have:=aa8 (f:=rH) (m:=1) (λx=>by unfold rH;split<;>omega) b;unfold fin;omega
theorem al4{b:List Int}{i:Nat}(hi:i<b.length)(x:Int):fin (b.set i x)=fin b-rH (b.getD i 0)+rH x:=aa7 b i hi x
def ent(cs:List (List Int))(u v:Nat):Int:=(cs.getD u []).getD v 0
structure zj(V:List Int)(L:List ah)(cs:List (List Int)):Prop where
 nd:V.Nodup
 le:V.length≤24
 len:cs.length=V.length
 row:∀u,u<V.length→(cs.getD u []).length=V.length
 arc:∀a∈L,a.Hop.aD∈V∧a.Hop.To∈V∧ent cs (V.idxOf a.Hop.aD) (V.idxOf a.Hop.To)=a.dx∧1≤a.dx∧a.dx≤1000
 hop:∀u v,u<V.length→v<V.length→0<ent cs u v→ah.mk (az.mk (V.getD u 0) (V.getD v 0)) (ent cs u v)∈L
theorem ads{V:List Int}(hn:V.Nodup){u:Nat}(hu:u<V.length):V.idxOf (V.getD u 0)=u:=by
 rw[List.getD_eq_getElem?_getD,List.getElem?_eq_getElem hu];exact hn.idxOf_getElem u hu
theorem nH{V:List Int}{x:Int}(hx:x∈V):V.getD (V.idxOf x) 0=x:=by
 have h:=List.idxOf_lt_length_of_mem hx;rw[List.getD_eq_getElem?_getD,List.getElem?_eq_getElem h];exact List.getElem_idxOf h
theorem zj.le1{V:List Int}{L:List ah}{cs:List (List Int)}(h:zj V L cs){u v:Nat}(hu:u<V.length)(hv:v<V.length)(he:0<ent cs u v):ent cs u v≤1000:=(h.arc _ (h.hop u v hu hv he)).2.2.2.2
section tab
variable {V:List Int}{L:List ah}{cs:List (List Int)}{ts:List Int}
structure pZ(V:List Int)(L:List ah)(ts:List Int)(S:Nat)(b:List Int):Prop where
 len:b.length=V.length
 bd:∀v,v<V.length→0≤b.getD v 0∧b.getD v 0≤FAR
 ok:∀v,v<V.length→b.getD v 0<FAR→b.getD v 0≤48000*S-48000+1000*fin b∧∃H,Trk bz L ts.length (λi=>ts.getD i 0) S (V.getD v 0) H∧dG bz H=b.getD v 0
structure vQ(V:List Int)(L:List ah)(cs:List (List Int))(ts:List Int)(rows:List (List Int))(S:Nat)(b:List Int):Prop where
 s:pZ V L ts S b
 one:∀i,i<ts.length→S=2 ^ i→b.getD (V.idxOf (ts.getD i 0)) 0≤0
 hop:∀u v,u<V.length→v<V.length→0<ent cs u v→b.getD u 0≤ent cs u v+b.getD v 0
 part:∀P R,0<P→0<R→P &&& R=0→P ||| R=S→∀v,v<V.length→b.getD v 0≤(rows.getD P []).getD v 0+(rows.getD R []).getD v 0
theorem pZ.put{S:Nat}{b:List Int}(h:pZ V L ts S b){u:Nat}(hu:u<V.length){c:Int}(h0:0≤c)(hc:c<FAR)(hb:c≤48000*S-48000+1000*fin b∨c≤48000*S-48000+1000*fin b+1000∧FAR≤b.getD u 0∨∃v,v<V.length∧v≠u∧b.getD v 0<FAR∧c≤b.getD v 0+1000∧c≤b.getD u 0)
  (hT:∃H,Trk bz L ts.length (λi=>ts.getD i 0) S (V.getD u 0) H∧dG bz H=c):pZ V L ts S (b.set u c):=by
 have hub:u<b.length:=by rw[h.len];exact hu
 have hbu:=h.bd u hu;have hfs:=al4 hub c;have hfc:rH c=1:=by unfold rH;rw[if_pos hc]
 have hge:fin b≤fin (b.set u c):=by
  rw[hfs,hfc];unfold rH;split<;>omega
 refine⟨by rw[List.length_set];exact h.len,λv hv=>?_,λv hv vj=>?_⟩
 ·rw[rX hub];split
  ·omega
  ·exact h.bd v hv
 ·rw[rX hub]at vj ⊢;by_cases e:v=u
  ·subst e;rw[if_pos rfl];refine⟨?_,hT⟩;rcases hb with hb|⟨hb,hf⟩|⟨w,w1,w2,w3,w4,w5⟩
   ·omega
   ·have:rH (b.getD v 0)=0:=by unfold rH;rw[if_neg (by omega)]
    omega
   ·by_cases hf:b.getD v 0<FAR
    ·have:=(h.ok v hv hf).1;omega
    ·have:rH (b.getD v 0)=0:=by unfold rH;rw[if_neg hf]
     have:=(h.ok w w1 w3).1;omega
  ·rw[if_neg e]at vj ⊢;obtain⟨h1,h2⟩:=h.ok v hv vj;exact⟨by omega,h2⟩
theorem vQ.le{rows:List (List Int)}{S:Nat}{b:List Int}(hV:V.length≤24)(h:vQ V L cs ts rows S b){v:Nat}(hv:v<V.length)(hf:b.getD v 0<FAR):b.getD v 0≤48000*S-24000:=by
 have h1:=(h.s.ok v hv hf).1;have h2:=(uB b).2;have h3:=h.s.len;omega
theorem pZ.step{S:Nat}{b:List Int}(hM:zj V L cs)(h:pZ V L ts S b){u v:Nat}(hu:u<V.length)(hv:v<V.length)(he:0<ent cs u v)(hlt:ent cs u v+b.getD v 0<b.getD u 0):pZ V L ts S (b.set u (ent cs u v+b.getD v 0)):=by
 have h1:=hM.le1 hu hv he;have h2:=h.bd v hv;have h3:=h.bd u hu;have hf:b.getD v 0<FAR:=by omega
 obtain⟨h4,H,h5,h6⟩:=h.ok v hv hf;refine h.put hu (by omega) (by omega) (.inr (.inr ⟨v,hv,λe=>by subst e;omega,hf,by omega,by omega⟩)) ⟨_,Trk.hop (N:=bz) _ (hM.hop u v hu hv he) h5,?_⟩;rw[gu,h6];rfl
theorem pZ.join{rows:List (List Int)}{P R S:Nat}{b p r:List Int}(hV:V.length≤24)(h:pZ V L ts S b)(hP:vQ V L cs ts rows P p)(hR:vQ V L cs ts rows R r)(h0:P &&& R=0)(ho:P ||| R=S)(hs:P+R=S){v:Nat}(hv:v<V.length)(hlt:p.getD v 0+r.getD v 0<b.getD v 0):pZ V L ts S (b.set v (p.getD v 0+r.getD v 0)):=by
 have h1:=hP.s.bd v hv;have h2:=hR.s.bd v hv;have h3:=h.bd v hv;have f1:p.getD v 0<FAR:=by omega
 have f2:r.getD v 0<FAR:=by omega
 obtain⟨_,H,a1,a2⟩:=hP.s.ok v hv f1;obtain⟨_,K,b1,b2⟩:=hR.s.ok v hv f2;have c1:=hP.le hV hv f1;have c2:=hR.le hV hv f2;have hf:=(uB b).1;refine h.put hv (by omega) (by omega) (.inl (by omega)) ⟨H++K,?_,by rw[yy,a2,b2]⟩;have:=Trk.part (N:=bz) h0 a1 b1
 rwa [ho]at this
def mZ(b:List Int):Int:=(b.map xE).sum
theorem aa9(b:List Int):0≤mZ b∧mZ b≤5000000*b.length:=aa8 (λx=>by unfold xE;split;split;omega;split<;>omega;omega) b
theorem aiT{S:Nat}(hS:S≤64){b:List Int}(hV:V.length≤24)(h:pZ V L ts S b){u:Nat}(hu:u<V.length){c:Int}(h0:0≤c)(hlt:c<b.getD u 0)(h':pZ V L ts S (b.set u c)):mZ (b.set u c)<mZ b:=by
 have hub:u<b.length:=by rw[h.len];exact hu
 have h1:=h.bd u hu;have hfb:=(uB b).2;have hfb':=(uB (b.set u c)).2;have hl':=h'.len;have hc:=h'.ok u hu (by rw[rX hub,if_pos rfl];omega);rw[rX hub,if_pos rfl]at hc;have hc1:=hc.1;have hl:=h.len;unfold mZ;rw[aa7 b u hub];have e1:xE c=c:=by unfold xE;rw[if_pos (by omega),if_neg (by omega),if_pos (by omega)]
 rw[e1];by_cases hf:b.getD u 0<FAR
 ·have h2:=(h.ok u hu hf).1;have e2:xE (b.getD u 0)=b.getD u 0:=by unfold xE;rw[if_pos hf,if_neg (by omega),if_pos (by omega)]
  rw[e2];omega
 ·have e2:xE (b.getD u 0)=5000000:=by unfold xE;rw[if_neg hf]
  rw[e2];omega
structure apQ(V:List Int)(L:List ah)(cs:List (List Int))(ts:List Int)(rows:List (List Int))(n:Nat):Prop where
 len:n≤rows.length
 row:∀S,0<S→S<n→vQ V L cs ts rows S (rows.getD S [])
theorem agT{rows:List (List Int)}(hM:zj V L cs)(ht:∀t∈ts,t∈V)(h:apQ V L cs ts rows (2 ^ ts.length)){root:Int}(hr:root∈V)(h1:0<ts.length):
  (∀K,(∀a∈K,a∈L)→(∀t,t∈ts→Con bz K root t)→(rows.getD (2 ^ ts.length-1) []).getD (V.idxOf root) 0≤dG bz K)∧
  ((rows.getD (2 ^ ts.length-1) []).getD (V.idxOf root) 0<FAR→∃H,(∀a∈H,a∈L)∧(∀t,t∈ts→Con bz H root t)∧dG bz H=(rows.getD (2 ^ ts.length-1) []).getD (V.idxOf root) 0):=by
 have hp1:2 ^ 1≤2 ^ ts.length:=Nat.pow_le_pow_right (by omega) h1;have hix:∀{x},x∈V→V.idxOf x<V.length:=λhx=>List.idxOf_lt_length_of_mem hx;constructor
 ·intro K hK hc
  let C:Nat→Int→Int:=λS v=>@ite _ (v∈V) (Classical.propDecidable _) ((rows.getD S []).getD (V.idxOf v) 0) 0
  have hC:∀S {v},v∈V→C S v=(rows.getD S []).getD (V.idxOf v) 0:=λS v hv=>if_pos hv
  have aiE:Low bz L ts.length (λi=>ts.getD i 0) C:=by
   refine⟨λa ha=>by have:=(hM.arc a ha).2.2.2.1;show 0≤a.dx;omega,λi hi=>?_,λS h0 hS a ha=>?_,λS P R hS hP hR h0 ho v=>?_⟩
   ·have hm:ts.getD i 0∈V:=ht _ (by rw[List.getD_eq_getElem?_getD,List.getElem?_eq_getElem hi];exact List.getElem_mem hi);rw[hC _ hm];exact(h.row (2 ^ i) (Nat.two_pow_pos i) (Nat.pow_lt_pow_right (by omega) hi)).one i hi rfl
   ·obtain⟨a1,a2,a3,a4,_⟩:=hM.arc a ha;have hD:=h.row S h0 hS;have:=hD.hop _ _ (hix a1) (hix a2) (by rw[a3];omega);rw[a3]at this;show C S a.Hop.aD≤a.dx+C S a.Hop.To;rw[hC _ a1,hC _ a2];exact this
   ·have hD:=h.row S (Nat.lt_of_lt_of_le hP (by rw[←ho];exact Nat.left_le_or)) hS;by_cases hv:v∈V
    ·rw[hC _ hv,hC _ hv,hC _ hv];exact hD.part P R hP hR h0 ho _ (hix hv)
    ·simp only[C];rw[if_neg hv,if_neg hv,if_neg hv];omega
  have:=aiE.le K.length K (Nat.le_refl _) hK (2 ^ ts.length-1) (by omega) (by omega) root (aac.2 hc)
  rwa [hC _ hr]at this
 ·intro hf;obtain⟨_,H,h2,h3⟩:=(h.row (2 ^ ts.length-1) (by omega) (by omega)).s.ok _ (hix hr) hf;rw[nH hr]at h2;exact⟨H,h2.sub,aac.1 h2.cov,h3⟩
end tab
end
section
variable {hs:List az}{x:Int}
theorem al5{Hs:List ah}(hp:hs.Perm (Hs.map (·.Hop))){root:Int}(h:Con bz Hs root x):Rch root hs x:=by
 have:∀{y x:Int},Con bz Hs y x→Rch root hs y→Rch root hs x:=λ{y x} h=>by
  induction h with
  |refl v=>exact id
  |step a ha _ ih=>exact λhr=>ih (Rch.step a.Hop (hp.mem_iff.2 (List.mem_map.2 ⟨a,ha,rfl⟩)) hr)
 exact this h .root
theorem uC{g:ai}(hv:Vt g){a:ah}(ha:a∈fC g):a.Hop.aD∈ids g∧a.Hop.To∈ids g:=by
 obtain⟨k,hk,h⟩:=mA.1 ha;have:=hv.ends k hk;rcases h with rfl|rfl
 ·exact⟨iI.2 this.1,iI.2 this.2⟩
 ·exact⟨iI.2 this.2,iI.2 this.1⟩
theorem qy{g:ai}(hv:Vt g)(hx:x∈ids g):1≤x∧x≤99:=by
 obtain⟨r,hr,rfl⟩:=List.mem_map.1 hx;exact hv.idr r hr
variable {ay:List ah}{c:Int}{ts:List Int}
theorem al6{g:ai}(hv:Vt g)(hsub:∀a∈ay,a∈fC g){root:Int}(hr:root∈ids g)(h:mW ay root ts hs c):Vr (aT.mk root hs):=by
 obtain⟨⟨Hs,hO,hc,hp⟩,aiU⟩:=h
 have hm:∀h∈hs,∃a∈Hs,a.Hop=h:=λh hh=>by
  obtain⟨a,ha,e⟩:=List.mem_map.1 (hp.mem_iff.1 hh);exact⟨a,ha,e⟩
 have hdup:Hs.Pairwise λa b=>a.Hop.To≠b.Hop.To:=by
  have hnd:Hs.Pairwise λa b=>a≠b:=hO.nodup;exact hnd.imp_of_mem λ{a b} ha hb hab e=>hab (hO.dst ha hb e)
 refine⟨qy hv hr,λh hh=>?_,aiU.imp λ{a b} h=>?_,?_,λh hh=>?_,λh hh=>?_⟩
 ·obtain⟨a,ha,rfl⟩:=hm h hh;have:=uC hv (hsub a (hO.sub a ha));exact⟨qy hv this.1,qy hv this.2⟩
 ·rw[gq,gq]at h;simp only[cZ]at h;simp only[ltH,Bool.or_eq_true,Bool.and_eq_true,decide_eq_true_eq];omega
 ·have h2:(Hs.map (·.Hop)).Pairwise λa b=>a.To≠b.To:=List.pairwise_map.2 hdup;exact(hp.pairwise_iff λ{a b} h=>Ne.symm h).2 h2
 ·obtain⟨a,ha,rfl⟩:=hm h hh;exact hO.root ha
 ·obtain⟨a,ha,rfl⟩:=hm h hh;exact al5 hp (hO.rch ha)
theorem afz{root:Int}(h:mW ay root ts hs c){t:Int}(ht:t∈ts):t=root∨∃x∈hs,x.To=t:=by
 obtain⟨⟨Hs,hO,hc,hp⟩,aiU⟩:=h;rcases ac1 (hO.cov t ht)with h|⟨e,he,h1,_⟩
 ·exact .inl h.symm
 ·exact .inr ⟨e.Hop,hp.mem_iff.2 (List.mem_map.2 ⟨e,he,rfl⟩),h1⟩
theorem p8{A:Type}[DecidableEq A]{a b:List A}(h:a.Nodup)(hs:∀x∈a,x∈b):a.length≤b.length:=by
 induction a generalizing b with
 |nil=>simp
 |cons x a ih=>
  rw[List.nodup_cons]at h;have hx:=hs x (by simp);have:=ih (b:=b.erase x) h.2 λy hy=>(List.mem_erase_of_ne (λe=>h.1 (by rw[←e];exact hy))).2 (hs y (by simp[hy]));rw[List.length_erase_of_mem hx]at this;have:=List.length_pos_of_mem hx;simp only[List.length_cons];omega
theorem sV(hA:iW ay){root:Int}(h:mW ay root ts hs c):hs.length≤1000:=by
 obtain⟨⟨Hs,hO,hc,hp⟩,aiU⟩:=h;have h1:Hs.length≤ay.length:=p8 hO.nodup hO.sub;have h2:=hp.length_eq;have h3:=hA.len;rw[List.length_map]at h2;omega
end
section
theorem aiV{a b:Nat}(ha:a<2 ^ 60)(hb:b<2 ^ 60):fk .xor .i64 (a:Int) (b:Int)=((a ^^^ b:Nat):Int):=by
 have h1:(a ^^^ b)<2 ^ 60:=Nat.xor_lt_two_pow ha hb;show w64 (((BitVec.ofInt 64 (a:Int) ^^^ BitVec.ofInt 64 (b:Int)).toNat:Nat):Int)=_;rw[BitVec.ofInt_natCast,BitVec.ofInt_natCast,BitVec.toNat_xor,BitVec.toNat_ofNat,BitVec.toNat_ofNat,Nat.mod_eq_of_lt (by omega),Nat.mod_eq_of_lt (by omega)];exact cH (by omega) (by omega)
variable {P S:Nat}
theorem aiW(h:P &&& S=P):P &&& (S ^^^ P)=0∧P ||| (S ^^^ P)=S:=by
 have hb:∀i,(P.testBit i&&S.testBit i)=P.testBit i:=λi=>by rw[←Nat.testBit_and,h]
 constructor
 ·apply Nat.eq_of_testBit_eq;intro i;have:=hb i;rw[Nat.testBit_and,Nat.testBit_xor,Nat.zero_testBit]
  revert this
  cases P.testBit i<;>cases S.testBit i<;>simp
 ·apply Nat.eq_of_testBit_eq;intro i;have:=hb i;rw[Nat.testBit_or,Nat.testBit_xor]
  revert this
  cases P.testBit i<;>cases S.testBit i<;>simp
theorem aiX{R:Nat}(h0:P &&& R=0)(h:P ||| R=S):R=S ^^^ P∧P &&& S=P:=by
 have hz:∀i,(P.testBit i&&R.testBit i)=false:=λi=>by rw[←Nat.testBit_and,h0,Nat.zero_testBit]
 have ho:∀i,(P.testBit i||R.testBit i)=S.testBit i:=λi=>by rw[←Nat.testBit_or,h]
 constructor
 ·apply Nat.eq_of_testBit_eq;intro i;have h1:=hz i;rw[Nat.testBit_xor,←ho i]
  revert h1
  cases P.testBit i<;>cases R.testBit i<;>simp
 ·apply Nat.eq_of_testBit_eq;intro i;rw[Nat.testBit_and,←ho i];cases P.testBit i<;>simp
theorem apS{R:Nat}(hP:P<2 ^ 60)(hR:R<2 ^ 60)(h:P &&& R=0):P+R=P ||| R:=by
 have h1:=BitVec.add_eq_or_of_and_eq_zero (BitVec.ofNat 64 P) (BitVec.ofNat 64 R) (by
  apply BitVec.eq_of_toNat_eq;rw[BitVec.toNat_and,BitVec.toNat_ofNat,BitVec.toNat_ofNat,Nat.mod_eq_of_lt (by omega),Nat.mod_eq_of_lt (by omega),h];rfl)
 have h2:=congrArg BitVec.toNat h1;have h3:(P ||| R)<2 ^ 60:=Nat.or_lt_two_pow hP hR;rw[BitVec.toNat_add,BitVec.toNat_or,BitVec.toNat_ofNat,BitVec.toNat_ofNat,Nat.mod_eq_of_lt (a:=P) (by omega),Nat.mod_eq_of_lt (a:=R) (by omega),Nat.mod_eq_of_lt (by omega)]at h2;exact h2
theorem zk{R:Nat}(h0:P &&& R=0)(h:P ||| R=S)(hP:0<P):R<S:=o5 (by rw[Nat.and_comm];exact h0) (by rw[Nat.or_comm];exact h) hP
variable {i:Nat}{α:Type}
theorem elD(d:α){l:List α}(h:i<l.length):elO l (i:Int)=some (l.getD i d):=by
 apply bu;rw[List.getD_eq_getElem?_getD,List.getElem?_eq_getElem h];rfl
theorem iJ(d:α){l:List α}(hi:i<l.length)(x:α)(v:Nat):(l.set i x).getD v d=if v=i then x else l.getD v d:=by
 rw[List.getD_eq_getElem?_getD,List.getD_eq_getElem?_getD,List.getElem?_set];by_cases h:v=i
 ·subst h;simp[hi]
 ·rw[if_neg h,if_neg λe=>h e.symm]
theorem aiY(d:α){l:List α}(hi:i<l.length):l.set i (l.getD i d)=l:=by
 rw[List.getD_eq_getElem?_getD,List.getElem?_eq_getElem hi];exact List.set_getElem_self hi
section tab
variable {V:List Int}{L:List ah}{cs:List (List Int)}{ts:List Int}
theorem vQ.congr{rows aj5:List (List Int)}{S:Nat}{b:List Int}(h:vQ V L cs ts rows S b)(he:∀P,P<S→aj5.getD P []=rows.getD P []):vQ V L cs ts aj5 S b:=by
 refine⟨h.s,h.one,h.hop,λP R hP hR h0 ho v hv=>?_⟩;have h1:=o5 h0 ho hR;have h2:=zk h0 ho hP;rw[he P h1,he R h2];exact h.part P R hP hR h0 ho v hv
structure Way(V:List Int)(L:List ah)(ts:List Int)(rows:List (List Int))(S:Nat)(j:Nat)(p:Nat→Nat→Prop)(b:List Int):Prop where
 len:b.length=V.length
 z:S=0→∀v,v<V.length→b.getD v 0=0
 s:0<S→pZ V L ts S b
 one:∀i,i<j→i<ts.length→S=2 ^ i→b.getD (V.idxOf (ts.getD i 0)) 0≤0
 part:∀P v,p P v→0<P→P<S→P &&& S=P→v<V.length→b.getD v 0≤(rows.getD P []).getD v 0+(rows.getD (S ^^^ P) []).getD v 0
theorem Way.down{rows:List (List Int)}{S j:Nat}{p:Nat→Nat→Prop}{b:List Int}(h:Way V L ts rows S j p b)(hS:0<S){u:Nat}{c:Int}(hu:u<V.length)(hle:c≤b.getD u 0)(hR:pZ V L ts S (b.set u c)):Way V L ts rows S j p (b.set u c):=by
 have hub:u<b.length:=by rw[h.len];exact hu
 have hle2:∀v,(b.set u c).getD v 0≤b.getD v 0:=λv=>by
  rw[rX hub];split
  ·rename_i e;subst e;exact hle
  ·exact Int.le_refl _
 exact⟨hR.len,λh0=>by omega,λ_=>hR,λi h1 h2 h3=>Int.le_trans (hle2 _) (h.one i h1 h2 h3),λP v h1 h2 h3 h4 h5=>Int.le_trans (hle2 _) (h.part P v h1 h2 h3 h4 h5)⟩
theorem aiZ(hM:zj V L cs)(ht:∀t∈ts,t∈V)(hk:ts.length≤6){root:Int}(hr:root∈V):
  Ok (mJ cs (V.idxOf root:Int) (ts.map λx=>(V.idxOf x:Int))) (λc=>(ts=[]→c=0)∧(0<ts.length→(∀K,(∀a∈K,a∈L)→(∀t,t∈ts→Con bz K root t)→c≤dG bz K)∧(c<FAR→∃H,(∀a∈H,a∈L)∧(∀t,t∈ts→Con bz H root t)∧dG bz H=c))):=by
 have hFAR:FAR=1099511627776:=rfl;have hcl:=hM.len;have hV:=hM.le;have hn0:0<V.length:=List.length_pos_of_mem hr;have hix:∀{x},x∈V→V.idxOf x<V.length:=λhx=>List.idxOf_lt_length_of_mem hx;have hpow:2 ^ ts.length≤64:=Nat.le_trans (Nat.pow_le_pow_right (by omega) hk) (by decide);have asM:1≤2 ^ ts.length:=Nat.one_le_two_pow;generalize hN:2 ^ ts.length=N at hpow asM
 have sh:∀i:Nat,i≤6→IntKind.wrap .i64 ((1:Int)*2 ^ min (IntKind.wrap .u64 ((i:Nat):Int)).toNat 64)=((2 ^ i:Nat):Int):=λi hi=>by
  have hp:2 ^ i≤2 ^ 6:=Nat.pow_le_pow_right (by omega) hi;rw[wrap_u64 (by omega) (by omega),Int.toNat_natCast,Nat.min_eq_left (by omega),Int.one_mul];have e:((2:Int) ^ i)=((2 ^ i:Nat):Int):=by simp
  rw[e];generalize 2 ^ i=z at hp ⊢;exact cH (by omega) (by omega)
 unfold mJ;rw[List.length_map,sh _ hk,hN,hcl];refine Ok.chk (by rw[wrap_u64 (by omega) (by omega)];simp) (Ok.chk (by simp;omega) (Ok.chk (by simp;omega) ?_));have fD:(List.replicate ((N:Nat):Int).toNat []:List (List Int)).length=N:=by simp
 rw[fD];refine Ok.jd (λi (m:List (List Int))=>m.length=N∧(∀S:Nat,0<S→(S:Int)<i→vQ V L cs ts m S (m.getD S []))∧((0:Int)<i→(m.getD 0 []).length=V.length∧∀v,v<V.length→(m.getD 0 []).getD v 0=0)) 0 (N:Int) ?_ ?_ _ 0 _ (by simp) (by omega) (by omega) ⟨fD,λS h1 h2=>by omega,λh=>by omega⟩
 ·
  intro i m Z hi0 hiN hI hZ;obtain⟨hml,hrows,hz0⟩:=hI;obtain⟨S,rfl⟩:=Int.eq_ofNat_of_zero_le hi0;have hSN:S<N:=by omega
  have hSm:S<m.length:=by omega
  have hSmi:∀b:List Int,S<(m.set S b).length:=λb=>by rw[List.length_set];exact hSm
  have eS:∀b:List Int,elO (m.set S b) (S:Int)=some b:=λb=>by rw[elD [] (hSmi b),iJ [] hSm,if_pos rfl]
  have eP:∀(b:List Int) (P:Nat),P<S→elO (m.set S b) (P:Int)=some (m.getD P []):=λb P hP=>by rw[elD [] (by rw[List.length_set];omega),iJ [] hSm,if_neg (by omega)]
  have sS:∀b b':List Int,List.set (m.set S b) S b'=m.set S b':=λb b'=>List.set_set ..
  have hrowlen:∀P:Nat,P<S→(m.getD P []).length=V.length:=λP hP=>by
   rcases Nat.eq_zero_or_pos P with h0|h0
   ·subst h0;exact(hz0 (by omega)).1
   ·exact(hrows P h0 (by omega)).s.len
  refine Ok.chk (by simp;omega) ?_;rw[elD [] hSm,aI,Int.toNat_natCast,Int.toNat_natCast,eS,aI,List.length_replicate];refine Ok.chk (by simp;omega) ?_;refine Ok.jd (λj (m2:List (List Int))=>∃b:List Int,m2=m.set S b∧b.length=V.length∧∀v:Nat,(v:Int)<j→b.getD v 0=if S=0 then 0 else FAR) 0 (V.length:Int) ?_ ?_ _ 0 _ (by simp) (by omega) (by omega) ⟨_,rfl,by simp,λv hv=>by omega⟩
  ·rintro j m2 Z2 hj0 hjn ⟨b,rfl,hbl,hb⟩ hZ2;obtain⟨u,rfl⟩:=Int.eq_ofNat_of_zero_le hj0;have hub:u<b.length:=by omega
   refine Ok.jn (λm3=>∃b:List Int,m3=m.set S b∧b.length=V.length∧∀v:Nat,(v:Int)<(u:Int)+1→b.getD v 0=if S=0 then 0 else FAR) (λm3 h3=>hZ2 m3 h3) λJ hJ=>?_;rw[eS,aI,elD 0 hub,aI,Int.toNat_natCast,sS]
   have dN:∀(b':List Int) (x:Int),b'.length=V.length→(∀v:Nat,v<u→b'.getD v 0=b.getD v 0)→x=(if S=0 then 0 else FAR)→∀v:Nat,(v:Int)<(u:Int)+1→(b'.set u x).getD v 0=if S=0 then 0 else FAR:=λb' x h1 h2 hx v hv=>by
    rw[rX (by omega)];split
    ·exact hx
    ·rw[h2 v (by omega)];exact hb v (by omega)
   refine Ok.cs (λhc=>?_) λhc=>?_
   ·have hS0:S=0:=by have:=of_decide_eq_true hc;omega
    rw[eS,aI,elD 0 (by rw[List.length_set];exact hub),aI,sS];exact hJ _ ⟨_,rfl,by simpa using hbl,dN _ 0 (by simpa using hbl) (λv hv=>by rw[rX hub,if_neg (by omega)]) (by rw[if_pos hS0])⟩
   ·have hS0:¬S=0:=by have:=of_decide_eq_false hc;omega
    exact hJ _ ⟨_,rfl,by simpa using hbl,dN b _ hbl (λ_ _=>rfl) (by rw[if_neg hS0])⟩
  ·rintro j m2 hj0 hjn ⟨b,rfl,hbl,hb⟩;have hj:=hjn (by omega);subst hj;have hb0:∀v,v<V.length→b.getD v 0=if S=0 then 0 else FAR:=λv hv=>hb v (by omega)
   have fL:(ts.map λx=>(V.idxOf x:Int)).length=ts.length:=List.length_map ..;refine Ok.nX (L:=ts.map λx=>(V.idxOf x:Int)) (λp (m4:List (List Int))=>∃b,m4=m.set S b∧Way V L ts m S p.length (λ_ _=>False) b) ?_ _ ⟨b,rfl,hbl,λh0 v hv=>by rw[hb0 v hv,if_pos h0],λh0=>⟨hbl,λv hv=>by rw[hb0 v hv,if_neg (by omega)];omega,λv hv hlt=>by rw[hb0 v hv,if_neg (by omega)]at hlt;omega⟩,λi hi=>by simp at hi,λP v hp=>hp.elim⟩ ?_
   ·rintro p x r m4 Z3 hL ⟨b,rfl,hW⟩ hZ3;have hx:(ts.map λx=>(V.idxOf x:Int))[p.length]?=some x:=by rw[hL];simp
    rw[List.getElem?_map]at hx;obtain⟨t,ht1,rfl⟩:=Option.map_eq_some_iff.1 hx;have hpt:=(List.getElem?_eq_some_iff.1 ht1).1;have htV:=ht t (List.mem_of_getElem? ht1);have htd:ts.getD p.length 0=t:=by rw[List.getD_eq_getElem?_getD,ht1];rfl
    have hu:=hix htV;refine Ok.jn (λm5=>∃b,m5=m.set S b∧Way V L ts m S (p.length+1) (λ_ _=>False) b) (λm5 h=>hZ3 m5 (by simpa using h)) λJ hJ=>?_;refine Ok.chk (by rw[wrap_u64 (by omega) (by omega)];simp) ?_;rw[sh p.length (by omega)];refine Ok.cs (λhc=>?_) λhc=>?_
    ·have hSp:S=2 ^ p.length:=by have:=of_decide_eq_true hc;omega
     have hS:0<S:=by rw[hSp];exact Nat.two_pow_pos _
     rw[eS,aI,elD 0 (by rw[hW.len];exact hu),aI,Int.toNat_natCast,sS];have hf:=(uB b).1;have hT:=Trk.one (N:=bz) (L:=L) (k:=ts.length) (ts:=λi=>ts.getD i 0) p.length hpt;simp only[htd]at hT;rw[←hSp]at hT;have hR:=(hW.s hS).put hu (Int.le_refl 0) (by decide) (.inl (by omega)) ⟨[],by rw[nH htV];exact hT,rfl⟩;have hW2:=hW.down hS hu ((hW.s hS).bd _ hu).1 hR;refine hJ _ ⟨_,rfl,hW2.len,hW2.z,hW2.s,λi hi h1 h2=>?_,hW2.part⟩;by_cases hip:i=p.length
     ·subst hip;rw[htd,rX (by rw[hW.len];exact hu),if_pos rfl];exact Int.le_refl _
     ·exact hW2.one i (by omega) h1 h2
    ·have hSp:¬S=2 ^ p.length:=by have:=of_decide_eq_false hc;omega
     refine hJ _ ⟨b,rfl,hW.len,hW.z,hW.s,λi hi h1 h2=>?_,hW.part⟩;by_cases hip:i=p.length
     ·subst hip;exact absurd h2 hSp
     ·exact hW.one i (by omega) h1 h2
   ·rintro m4 ⟨b,rfl,hW⟩;rw[fL]at hW;refine Ok.whl (λsg:Int×List (List Int)=>∃(v:Nat) (b:List Int),sg=((v:Int),m.set S b)∧v≤V.length∧Way V L ts m S ts.length (λ_ w=>w<v) b) (λsg=>V.length-sg.1.toNat) ⟨0,b,rfl,Nat.zero_le _,hW.len,hW.z,hW.s,hW.one,λP v h=>by omega⟩ (by simp only;omega) ?_;rintro⟨v1,m6⟩ Z4 ⟨v,b,heq,hvn,hW⟩ hZ4;simp only[Prod.mk.injEq]at heq;obtain⟨rfl,rfl⟩:=heq;refine Ok.cs (λhc=>?_) λhc=>?_
    ·simp only[Bool.and_eq_true,decide_eq_true_eq]at hc;have hS:0<S:=by omega
     have hv:v<V.length:=by omega
     have hnx:∀P:Nat,0<P→P≤S→fk .and .i64 (w64 ((P:Int)-1)) (S:Int)=(((P-1) &&& S:Nat):Int):=λP h1 h2=>by
      rw[cH (by omega) (by omega),show((P:Int)-1)=((P-1:Nat):Int)by omega,vH (by omega) (by omega)]
     rw[hnx S hS (Nat.le_refl _)];refine Ok.whl (λsg:Int×List (List Int)=>∃(P:Nat) (b:List Int),sg=((P:Int),m.set S b)∧P &&& S=P∧P<S∧Way V L ts m S ts.length (λQ w=>w<v∨w=v∧P<Q) b) (λsg=>sg.1.toNat) ⟨(S-1) &&& S,b,rfl,tq (a:=S-1) (S:=S) 0,Nat.lt_of_le_of_lt Nat.and_le_left (by omega),hW.len,hW.z,hW.s,hW.one,λQ w h h1 h2 h3 h4=>?_⟩ (by simp only[Int.toNat_natCast];have:(S-1) &&& S≤S-1:=Nat.and_le_left;omega) ?_
     ·rcases h with h|⟨_,h⟩
      ·exact hW.part Q w h h1 h2 h3 h4
      ·have:=vJ S S Q (Nat.and_self _) h3 h2;omega
     ·rintro⟨p1,m7⟩ Z5 ⟨P,b,heq,hPS,hPlt,hW⟩ hZ5;simp only[Prod.mk.injEq]at heq;obtain⟨rfl,rfl⟩:=heq;refine Ok.cs (λhc2=>?_) λhc2=>?_
      ·have hP:0<P:=by have:=of_decide_eq_true hc2;omega
       obtain⟨x1,x2⟩:=aiW hPS;have aiA:S ^^^ P<S:=zk x1 x2 hP;have hR:0<S ^^^ P:=by
        rcases Nat.eq_zero_or_pos (S ^^^ P)with h|h
        ·rw[h]at x2;simp at x2;omega
        ·exact h
       have hDP:=hrows P hP (by omega);have hDR:=hrows (S ^^^ P) hR (by omega);have apy:P+(S ^^^ P)=S:=by rw[apS (by omega) (by omega) x1,x2]
       have hvb:v<b.length:=by rw[hW.len];exact hv
       have bP:=hDP.s.bd v hv;have bR:=hDR.s.bd v hv;have bb:=(hW.s hS).bd v hv;rw[eS,aI,elD 0 hvb,aI,eP b P hPlt,aI,elD 0 (by rw[hDP.s.len];exact hv),aI,aiV (by omega) (by omega),eP b _ aiA,aI,elD 0 (by rw[hDR.s.len];exact hv),aI,Int.toNat_natCast,sS,hnx P hP (by omega),cH (by omega) (by omega)];have hle1:(P-1) &&& S≤P-1:=Nat.and_le_left
       have key:∀b',Way V L ts m S ts.length (λQ w=>w<v∨w=v∧P<Q) b'→b'.getD v 0≤(m.getD P []).getD v 0+(m.getD (S ^^^ P) []).getD v 0→Ok (Z5 (((((P-1) &&& S:Nat)):Int),m.set S b')) (λc=>(ts=[]→c=0)∧(0<ts.length→(∀K,(∀a∈K,a∈L)→(∀t,t∈ts→Con bz K root t)→c≤dG bz K)∧(c<FAR→∃H,(∀a∈H,a∈L)∧(∀t,t∈ts→Con bz H root t)∧dG bz H=c))):=λb' hW' hle=>by
        refine hZ5 _ ⟨(P-1) &&& S,b',rfl,tq (a:=P-1) (S:=S) 0,by omega,hW'.len,hW'.z,hW'.s,hW'.one,λQ w h h1 h2 h3 h4=>?_⟩ (by simp only[Int.toNat_natCast];omega);rcases h with h|⟨rfl,h⟩
        ·exact hW'.part Q w (.inl h) h1 h2 h3 h4
        ·by_cases hPQ:P<Q
         ·exact hW'.part Q w (.inr ⟨rfl,hPQ⟩) h1 h2 h3 h4
         ·have hQP:Q=P:=by
           rcases Nat.lt_or_ge Q P with h5|h5
           ·have:=vJ P S Q hPS h3 h5;omega
           ·omega
          subst hQP;exact hle
       split
       ·rename_i hlt;have hR':=(hW.s hS).join hV hDP hDR x1 x2 apy hv hlt;exact key _ (hW.down hS hv (by omega) hR') (by rw[rX hvb,if_pos rfl];exact Int.le_refl _)
       ·rename_i hlt;rw[aiY 0 hvb];exact key _ hW (by omega)
      ·have hP:P=0:=by have:=of_decide_eq_false hc2;omega
       subst hP;rw[cH (by omega) (by omega)];refine hZ4 _ ⟨v+1,b,by simp,hv,hW.len,hW.z,hW.s,hW.one,λQ w h h1 h2 h3 h4=>hW.part Q w ?_ h1 h2 h3 h4⟩ (by simp only;omega);rcases Nat.lt_or_eq_of_le (Nat.le_of_lt_succ h)with h|h
       ·exact .inl h
       ·exact .inr ⟨h,h1⟩
    ·
     have hall:Way V L ts m S ts.length (λ_ _=>True) b:=by
      refine⟨hW.len,hW.z,hW.s,hW.one,λQ w _ h1 h2 h3 h4=>hW.part Q w ?_ h1 h2 h3 h4⟩;simp only[Bool.and_eq_false_iff,decide_eq_false_iff_not]at hc;omega
     refine Ok.whl (λsg:Bool×List (List Int)=>∃b:List Int,sg.2=m.set S b∧Way V L ts m S ts.length (λ_ _=>True) b∧(S=0→sg.1=false)∧(sg.1=false→0<S→∀u w,u<V.length→w<V.length→0<ent cs u w→b.getD u 0≤ent cs u w+b.getD w 0)) (λsg=>2*(mZ (sg.2.getD S [])).toNat+(bif sg.1 then 1 else 0)) ⟨b,rfl,hall,λh=>by simp[h],λh h0=>by simp at h;omega⟩ ?_ ?_
     ·have h1:=(aa9 b).2;have h2:=hall.len;simp only;rw[iJ [] hSm,if_pos rfl];have:(bif decide ((0:Int)<(S:Int))then 1 else 0)≤1:=by cases decide ((0:Int)<(S:Int))<;>simp
      omega
     rintro⟨ch,m8⟩ Z6 ⟨b,heq,hW,hz1,apT⟩ hZ6;simp only at heq hz1 apT;subst heq;cases ch with
     |false=>
      refine hZ _ ⟨by rw[List.length_set];exact hml,λS' h1 h2=>?_,λ_=>?_⟩
      ·by_cases hS':S'=S
       ·subst hS';rw[iJ [] hSm,if_pos rfl];refine⟨hW.s h1,λi hi he=>hW.one i hi hi he,apT rfl h1,λP R hP hR h0 ho w hw=>?_⟩;obtain⟨e1,e2⟩:=aiX h0 ho;have hPl:=o5 h0 ho hR;have hRl:=zk h0 ho hP;rw[iJ [] hSm,iJ [] hSm,if_neg (by omega),if_neg (by omega),e1];exact hW.part P w trivial hP hPl e2 hw
       ·rw[iJ [] hSm,if_neg hS'];exact(hrows S' h1 (by omega)).congr λP hP=>by rw[iJ [] hSm,if_neg (by omega)]
      ·rw[iJ [] hSm];split
       ·rename_i h0;exact⟨hW.len,hW.z h0.symm⟩
       ·exact hz0 (by omega)
     |true=>
      have hS:0<S:=by
       rcases Nat.eq_zero_or_pos S with h|h
       ·exact absurd (hz1 h) (by simp)
       ·exact h
      refine Ok.nX (L:=cs) (λp (sg:Bool×List (List Int))=>∃b':List Int,sg.2=m.set S b'∧Way V L ts m S ts.length (λ_ _=>True) b'∧mZ b'≤mZ b∧(sg.1=true→mZ b'<mZ b)∧(sg.1=false→b'=b∧∀u,u<p.length→∀w,w<V.length→0<ent cs u w→b.getD u 0≤ent cs u w+b.getD w 0)) ?_ _ ⟨b,rfl,hW,Int.le_refl _,λh=>(by cases h),λ_=>⟨rfl,λu hu=>by simp at hu⟩⟩ ?_
      ·rintro p e7 r ⟨ch,m9⟩ Z7 hL ⟨b1,heq,hW1,hcp,hcT,hcF⟩ hZ7;simp only at heq hcp hcT hcF;subst heq;have hpu:p.length<V.length:=by have:=congrArg List.length hL;simp at this;omega
       have he7:cs.getD p.length []=e7:=by rw[hL,List.getD_eq_getElem?_getD];simp
       have h7l:e7.length=V.length:=by rw[←he7];exact hM.row _ hpu
       refine Ok.nX (L:=cs) (λq (sg:Bool×List (List Int))=>∃b':List Int,sg.2=m.set S b'∧Way V L ts m S ts.length (λ_ _=>True) b'∧mZ b'≤mZ b∧(sg.1=true→mZ b'<mZ b)∧(sg.1=false→b'=b∧(∀u,u<p.length→∀w,w<V.length→0<ent cs u w→b.getD u 0≤ent cs u w+b.getD w 0)∧∀w,w<q.length→0<ent cs p.length w→b.getD p.length 0≤ent cs p.length w+b.getD w 0)) ?_ _ ⟨b1,rfl,hW1,hcp,hcT,λh=>⟨(hcF h).1,(hcF h).2,λw hw=>by simp at hw⟩⟩ ?_
       ·rintro q e8 r2 ⟨ch,m10⟩ Z8 hL2 ⟨b2,heq,hW2,hcp,hcT,hcF⟩ hZ8;simp only at heq hcp hcT hcF;subst heq;have hqu:q.length<V.length:=by have:=congrArg List.length hL2;simp at this;omega
        have hen:e7.getD q.length 0=ent cs p.length q.length:=by rw[←he7];rfl
        have hpb:p.length<b2.length:=by rw[hW2.len];exact hpu
        have hqb:q.length<b2.length:=by rw[hW2.len];exact hqu
        have hRS:=hW2.s hS;have bp:=hRS.bd _ hpu;have bq:=hRS.bd _ hqu;refine Ok.jn (λsg:Bool×List (List Int)=>∃b':List Int,sg.2=m.set S b'∧Way V L ts m S ts.length (λ_ _=>True) b'∧mZ b'≤mZ b∧(sg.1=true→mZ b'<mZ b)∧(sg.1=false→b'=b∧(∀u,u<p.length→∀w,w<V.length→0<ent cs u w→b.getD u 0≤ent cs u w+b.getD w 0)∧∀w,w<q.length+1→0<ent cs p.length w→b.getD p.length 0≤ent cs p.length w+b.getD w 0)) (λsg h=>hZ8 sg (by simpa using h)) λJ hJ=>?_;refine Ok.jn (λc=>c=decide (0<ent cs p.length q.length∧ent cs p.length q.length+b2.getD q.length 0<b2.getD p.length 0)) (λc hc=>?_) λJ4 hJ4=>?_
        ·subst hc;refine Ok.cs (λh=>?_) λh=>?_
         ·obtain⟨h1,h2⟩:=of_decide_eq_true h;have h3:=hM.le1 hpu hqu h1;rw[eS,aI,elD 0 (by rw[h7l];exact hqu),aI,elD 0 hqb,aI,elD 0 hpb,aI,Int.toNat_natCast,sS,hen,cH (by omega) (by omega)];have hR':=hRS.step hM hpu hqu h1 h2;have hcs:=aiT (by omega) hV hRS hpu (by omega) h2 hR';exact hJ _ ⟨_,rfl,hW2.down hS hpu (by omega) hR',by omega,λ_=>(by omega),λh=>(by cases h)⟩
         ·have h:=of_decide_eq_false h;refine hJ _ ⟨b2,rfl,hW2,hcp,hcT,λhf=>?_⟩;obtain⟨f1,f2,f3⟩:=hcF hf;refine⟨f1,f2,λw hw hpos=>?_⟩;by_cases hwq:w=q.length
          ·subst hwq;rw[f1]at h;omega
          ·exact f3 w (by omega) hpos
        ·rw[elD 0 (by rw[h7l];exact hqu),aI,hen];refine Ok.cs (λh=>?_) λh=>?_
         ·have h:=of_decide_eq_true h;have h3:=hM.le1 hpu hqu h;rw[eS,aI,elD 0 hqb,aI,elD 0 hpb,aI,cH (by omega) (by omega)];exact hJ4 _ (by simp[h])
         ·have h:=of_decide_eq_false h;exact hJ4 _ (by simp[h])
       ·rintro⟨ch,m10⟩ ⟨b2,heq,hW2,hcp,hcT,hcF⟩;refine hZ7 _ ⟨b2,heq,hW2,hcp,hcT,λhf=>?_⟩;obtain⟨f1,f2,f3⟩:=hcF hf;refine⟨f1,λu hu w hw hpos=>?_⟩;by_cases hup:u=p.length
        ·subst hup;exact f3 w (by rw[hcl];exact hw) hpos
        ·exact f2 u (by simp at hu;omega) w hw hpos
      ·rintro⟨ch,m9⟩ ⟨b1,heq,hW1,hcp,hcT,hcF⟩;simp only at heq hcp hcT hcF;subst heq;have r1:=(aa9 b).1;have r2:=(aa9 b1).1;refine hZ6 _ ⟨b1,rfl,hW1,λh=>by omega,λhf _ u w hu hw hpos=>?_⟩ ?_
       ·obtain⟨f1,f2⟩:=hcF hf;rw[f1];exact f2 u (by rw[hcl];exact hu) w hw hpos
       ·simp only;rw[iJ [] hSm,iJ [] hSm,if_pos rfl,if_pos rfl];cases ch with
        |true=>have:=hcT rfl;simp only[cond_true];omega
        |false=>have:=(hcF rfl).1;subst this;simp
 ·rintro i m hi0 hiN ⟨hml,hrows,hz0⟩;have hi:=hiN (by omega);subst hi;have hw:w64 ((m.length:Int)-1)=((N-1:Nat):Int):=by rw[cH (by omega) (by omega)];omega
  have hzl:=hz0 (by omega);have hlen:(m.getD (N-1) []).length=V.length:=by
   rcases Nat.eq_zero_or_pos (N-1)with h|h
   ·rw[h];exact hzl.1
   ·exact(hrows (N-1) h (by omega)).s.len
  rw[hw,elD [] (by omega),aI,elD 0 (by rw[hlen];exact hix hr),aI];refine Ok.s ⟨λh0=>?_,λh1=>?_⟩
  ·subst h0;have hN1:N=1:=by rw[←hN];rfl
   subst hN1;exact hzl.2 _ (hix hr)
  ·have hT:apQ V L cs ts m (2 ^ ts.length):=⟨by omega,λS h2 h3=>hrows S h2 (by omega)⟩;have:=agT hM ht hT hr h1;rw[hN]at this;exact this
end tab
end
section
variable {c:Int}{m:List (List Int)}{u:Nat}
theorem aba{n v:Nat}(hm:m.length=n)(hr:∀u,u<n→(m.getD u []).length=n)(hu:u<n)(hv:v<n)(u' v':Nat):ent (m.set u ((m.getD u []).set v c)) u' v'=if u'=u∧v'=v then c else ent m u' v':=by
 unfold ent;rw[iJ [] (by omega)];by_cases h:u'=u
 ·subst h;rw[if_pos rfl,iJ 0 (by rw[hr _ hu];exact hv)];by_cases h2:v'=v
  ·rw[if_pos h2,if_pos ⟨rfl,h2⟩]
  ·rw[if_neg h2,if_neg λh=>h2 h.2]
 ·rw[if_neg h,if_neg λh2=>h h2.1]
theorem zl{n v:Nat}(hm:m.length=n)(hr:∀u,u<n→(m.getD u []).length=n)(hu:u<n):∀w,w<n→((m.set u ((m.getD u []).set v c)).getD w []).length=n:=λw hw=>by
 rw[iJ [] (by omega)];split
 ·rw[List.length_set];exact hr u hu
 ·exact hr w hw
structure apU(g:ai)(r:List (List Int)×Vec 100):Prop where
 mat:zj (ids g) (fC g) r.1
 at_:∀x∈ids g,elO r.2.l x=some ((ids g).idxOf x:Int)
theorem sW{V:List Int}{x y:Int}(hx:x∈V)(hy:y∈V)(h:V.idxOf x=V.idxOf y):x=y:=by
 rw[←nH hx,←nH hy,h]
theorem agU{g:ai}(hv:Vt g)(h0:0<g.aC.length):Ok (mI g) (apU g):=by
 have hnr:=hv.nr;have hil:(ids g).length=g.aC.length:=by simp[ids]
 have hnd:(ids g).Nodup:=(apK hv).imp λh=>Int.ne_of_lt h;unfold mI;refine Ok.nX (L:=g.aC) (λ(p:List bg) (m:Vec 100)=>∀(i:Nat) (x:Int),(p.map (·.ID))[i]?=some x→m.l[x.toNat]?=some (i:Int)) ?_ _ (λi x h=>by simp at h) ?_
 ·rintro p x r m Z hL hI hZ;have hx:x∈g.aC:=by rw[hL];simp
  have hid:=hv.idr x hx;have hml:=m.h;have hel:elO m.l x.ID=some (m.l.getD x.ID.toNat 0):=by
   have h:=elD 0 (l:=m.l) (i:=x.ID.toNat) (by omega)
   rwa [Int.toNat_of_nonneg (by omega)]at h
  rw[hel,aI];refine hZ _ λi y hy=>?_;show(m.l.set x.ID.toNat (p.length:Int))[y.toNat]?=_;rw[List.map_append,List.getElem?_append]at hy;split at hy
  ·rename_i hi;have hyp:y∈p.map (·.ID):=List.mem_of_getElem? hy;obtain⟨z,hz,rfl⟩:=List.mem_map.1 hyp;have hzx:z.ID≠x.ID:=by
    have:=hv.asc;rw[hL,List.pairwise_append]at this;have:=this.2.2 z hz x (by simp);omega
   have hzr:=hv.idr z (by rw[hL];simp[hz]);rw[List.getElem?_set_ne (by omega)];exact hI i _ hy
  ·rename_i hi;simp only[List.length_map,List.map_cons,List.map_nil]at hy hi;rw[List.getElem?_singleton]at hy;split at hy
   ·rename_i h1;cases hy;rw[List.getElem?_set_self (by omega),show p.length=i by omega]
   ·cases hy
 ·intro m hat
  have acw:∀x∈ids g,elO m.l x=some ((ids g).idxOf x:Int):=λx hx=>by
   have h1:=hat ((ids g).idxOf x) x (by
    have:=List.idxOf_lt_length_of_mem hx;show(ids g)[(ids g).idxOf x]?=some x;rw[List.getElem?_eq_getElem this];exact congrArg some (List.getElem_idxOf _))
   have:=qy hv hx;unfold elO;rw[if_pos (by omega)];exact h1
  refine Ok.chk (by simp;omega) (Ok.chk (by simp;omega) ?_);have fD:(List.replicate ((g.aC.length:Nat):Int).toNat []:List (List Int)).length=(ids g).length:=by simp[hil]
  rw[fD];refine Ok.jd (λj (m2:List (List Int))=>m2.length=(ids g).length∧∀u:Nat,(u:Int)<j→m2.getD u []=List.replicate (ids g).length 0) 0 ((ids g).length:Int) ?_ ?_ _ 0 _ (by simp) (by omega) (by omega) ⟨fD,λu hu=>by omega⟩
  ·rintro j m2 Z2 hj0 hjn ⟨hl,hI⟩ hZ2;obtain⟨u,rfl⟩:=Int.eq_ofNat_of_zero_le hj0;refine Ok.chk (by simp;omega) ?_;rw[elD [] (by omega),aI];refine hZ2 _ ⟨by rw[List.length_set];exact hl,λw hw=>?_⟩;rw[Int.toNat_natCast,Int.toNat_natCast,iJ [] (by omega)];split
   ·rw[hil]
   ·exact hI w (by omega)
  ·rintro j m2 hj0 hjn ⟨hl,hI⟩;have hj:=hjn (by omega);subst hj;have hix:∀{x},x∈ids g→(ids g).idxOf x<(ids g).length:=λhx=>List.idxOf_lt_length_of_mem hx;refine Ok.nX (L:=g.Links) (λp (m3:List (List Int))=>m3.length=(ids g).length∧(∀u,u<(ids g).length→(m3.getD u []).length=(ids g).length)∧(∀a∈p.flatMap gC,ent m3 ((ids g).idxOf a.Hop.aD) ((ids g).idxOf a.Hop.To)=a.dx)∧∀u v,u<(ids g).length→v<(ids g).length→0<ent m3 u v→ah.mk (az.mk ((ids g).getD u 0) ((ids g).getD v 0)) (ent m3 u v)∈p.flatMap gC) ?_ _ ⟨hl,λu hu=>by rw[hI u (by omega)];simp,λa ha=>by simp at ha,λu v hu hv' h=>?_⟩ ?_
   ·rintro p l r m3 Z3 hL ⟨hl3,hr3,hA,hB⟩ hZ3;have hl:l∈g.Links:=by rw[hL];simp
    have aah:=hv.ends l hl;have hAm:=iI.2 aah.1;have hBm:=iI.2 aah.2;have hlt:=hv.lt l hl;have hne:(ids g).idxOf l.A≠(ids g).idxOf l.B:=λe=>by have:=sW hAm hBm e;omega
    have iA:=hix hAm;have iB:=hix hBm;rw[acw _ hAm,acw _ hBm,aI,elD [] (by omega),aI,aI,elD [] (by omega),aI,elD 0 (by rw[hr3 _ iA];exact iB),aI,Int.toNat_natCast,Int.toNat_natCast];have hr4:=zl (v:=(ids g).idxOf l.B) (c:=l.eZ) hl3 hr3 iA;have hl4:(m3.set ((ids g).idxOf l.A) ((m3.getD ((ids g).idxOf l.A) []).set ((ids g).idxOf l.B) l.eZ)).length=(ids g).length:=by rw[List.length_set];exact hl3
    have he4:=aba (v:=(ids g).idxOf l.B) (c:=l.eZ) hl3 hr3 iA iB;generalize m3.set ((ids g).idxOf l.A) ((m3.getD ((ids g).idxOf l.A) []).set ((ids g).idxOf l.B) l.eZ)=m4 at hr4 hl4 he4 ⊢;rw[elD [] (by omega),aI,elD 0 (by rw[hr4 _ iB];exact iA),aI];have hr5:=zl (v:=(ids g).idxOf l.A) (c:=l.gj) hl4 hr4 iB;have he5:=aba (v:=(ids g).idxOf l.A) (c:=l.gj) hl4 hr4 iB iA;have hpw:=aa3 hv;unfold fC at hpw;rw[hL,List.flatMap_append,List.flatMap_cons,List.pairwise_append]at hpw;have hnew:∀a∈p.flatMap gC,∀b∈gC l,a.Hop≠b.Hop:=λa ha b hb=>hpw.2.2 a ha b (List.mem_append.2 (.inl hb));have hin:∀a∈p.flatMap gC,a.Hop.aD∈ids g∧a.Hop.To∈ids g:=λa ha=>uC hv (by unfold fC;rw[hL,List.flatMap_append];exact List.mem_append.2 (.inl ha));have e1:ah.mk (az.mk l.A l.B) l.eZ∈gC l:=by simp[gC]
    have e2:ah.mk (az.mk l.B l.A) l.gj∈gC l:=by simp[gC]
    refine hZ3 _ ⟨by rw[List.length_set];exact hl4,hr5,λa ha=>?_,λu v hu hv' hpos=>?_⟩
    ·rw[he5,he4];rw[List.flatMap_append,List.flatMap_singleton]at ha;rcases List.mem_append.1 ha with ha|ha
     ·obtain⟨q1,q2⟩:=hin a ha;rw[if_neg,if_neg]
      ·exact hA a ha
      ·rintro⟨h1,h2⟩;refine hnew a ha _ e1 ?_;have g1:=sW q1 hAm h1;have g2:=sW q2 hBm h2;cases hq:a.Hop with
       |mk f t=>rw[hq]at g1 g2;simp only at g1 g2;rw[g1,g2]
      ·rintro⟨h1,h2⟩;refine hnew a ha _ e2 ?_;have g1:=sW q1 hBm h1;have g2:=sW q2 hAm h2;cases hq:a.Hop with
       |mk f t=>rw[hq]at g1 g2;simp only at g1 g2;rw[g1,g2]
     ·simp only[gC,List.mem_cons,List.not_mem_nil,or_false]at ha;rcases ha with rfl|rfl
      ·rw[if_neg (λh=>hne h.1),if_pos ⟨rfl,rfl⟩]
      ·rw[if_pos ⟨rfl,rfl⟩]
    ·rw[he5,he4]at hpos ⊢;rw[List.flatMap_append,List.flatMap_singleton];by_cases c1:u=(ids g).idxOf l.B∧v=(ids g).idxOf l.A
     ·obtain⟨rfl,rfl⟩:=c1;rw[if_pos ⟨rfl,rfl⟩,nH hAm,nH hBm];exact List.mem_append.2 (.inr e2)
     ·rw[if_neg c1]at hpos ⊢;by_cases c2:u=(ids g).idxOf l.A∧v=(ids g).idxOf l.B
      ·obtain⟨rfl,rfl⟩:=c2;rw[if_pos ⟨rfl,rfl⟩,nH hAm,nH hBm];exact List.mem_append.2 (.inr e1)
      ·rw[if_neg c2]at hpos ⊢;exact List.mem_append.2 (.inl (hB u v hu hv' hpos))
   ·exfalso;unfold ent at h;rw[hI u (by omega),List.getD_eq_getElem?_getD,List.getElem?_replicate,if_pos hv']at h;simp at h
   ·rintro m3 ⟨hl3,hr3,hA,hB⟩;refine Ok.s ⟨⟨hnd,by omega,hl3,hr3,λa ha=>?_,hB⟩,acw⟩;have:=uC hv ha;have hc:=(aa4 hv).cost a ha;exact⟨this.1,this.2,hA a ha,hc.1,hc.2⟩
end
section
abbrev apV(l:List Int):Bool:=gW (λa b=>decide (a<b)) l
noncomputable def ckS(t:ai)(x:aT)(rs:List Int):Int:=
 bif !decide (lZ t=0)then 1 else bif !decide (ckT x=0)then ckT x else bif (x.bw::rs).any (λr=>!hasB t r)then 4 else bif x.Links.any (λh=>!(gl t h.aD h.To).2)then 4 else bif !apV rs then 25 else bif rs.any (λr=>!decide (r∈rF x))then 9 else 0
theorem sX(t:ai)(x:aT)(rs:List Int)(hx:x.Links.length≤90000)(hr:rs.length≤90000):fK t x rs=some (ckS t x rs):=by
 unfold fK ckS;rw[xy,aI];by_cases h:lZ t=0
 rotate_left
 ·rw[decide_eq_false h];rfl
 have hv:=oo.1 h;have hnr:=hv.nr;have hnl:=hv.nl;rw[decide_eq_true h,we _ (by omega),aI];simp only[Bool.not_true,cond_false];cases hc:!decide (ckT x=0)with
 |true=>rfl
 |false=>
  simp only[cond_false];rw[jv (by simp;omega),aI]
  refine(fh (λr=>!hasB t r) (some 4) (λj r Z s=>by
   rw[aed t r (by omega),aI,decide_eq_true h,Bool.true_and]) _ _ _).trans ?_
  show(bif (x.bw::rs).any (λr=>!hasB t r)then some 4 else _)=_;cases(x.bw::rs).any (λr=>!hasB t r)with
  |true=>rfl
  |false=>
   simp only[cond_false]
   refine(fh (λe:az=>!(gl t e.aD e.To).2) (some 4) (λj r Z s=>by
    rw[ade t _ _ (by omega),if_pos h,aI]) _ _ _).trans ?_
   cases x.Links.any (λe=>!(gl t e.aD e.To).2)with
   |true=>rfl
   |false=>
    simp only[cond_false];rw[apO _ (by omega),aI];cases !gW (λa b:Int=>decide (a<b)) rs with
    |true=>rfl
    |false=>
     simp only[cond_false];rw[adS _ (by omega),aI];refine(fh (λr=>!decide (r∈rF x)) (some 9) (λj r Z s=>by rw[alT,aI]) _ _ _).trans ?_;cases rs.any (λr=>!decide (r∈rF x))<;>rfl
theorem p9(t:ai)(x:aT)(rs:List Int)(hx:x.Links.length≤90000)(hr:rs.length≤90000):gp t x rs=some (ckS t x rs):=by
 unfold gp ckS;rw[tD,aI];by_cases h:lZ t=0
 rotate_left
 ·rw[decide_eq_false h];rfl
 rw[decide_eq_true h,tE _ (by omega),aI];simp only[Bool.not_true,cond_false];cases hc:!decide (ckT x=0)with
 |true=>rfl
 |false=>
  simp only[cond_false];rw[aaY,aI,decide_eq_true h,Bool.true_and,List.any_cons];cases hasB t x.bw with
  |false=>rfl
  |true=>
  simp only[Bool.not_true,cond_false,Bool.false_or]
  refine(fh (λr=>!hasB t r) (some 4) (λj r Z s=>by
   rw[aaY t r,aI,decide_eq_true h,Bool.true_and]) _ _ _).trans ?_
  cases rs.any (λr=>!hasB t r)with
  |true=>rfl
  |false=>
   simp only[cond_false]
   refine(fh (λe:az=>!(gl t e.aD e.To).2) (some 4) (λj r Z s=>by
    rw[adb t,if_pos h,aI]) _ _ _).trans ?_
   cases x.Links.any (λe=>!(gl t e.aD e.To).2)with
   |true=>rfl
   |false=>
    simp only[cond_false];rw[abI _ (by omega),aI];show(bif !gW (λa b:Int=>decide (a<b)) rs then _ else _)=_;cases !gW (λa b:Int=>decide (a<b)) rs with
    |true=>rfl
    |false=>
     simp only[cond_false];rw[abV _ (by omega),aI];refine(fh (λr=>!decide (r∈rF x)) (some 9) (λj r Z s=>by rw[adh,aI]) _ _ _).trans ?_;cases rs.any (λr=>!decide (r∈rF x))<;>rfl
def aai(t:ai)(l:List az):Int:=l.foldl (λn h=>w64 (n+(gl t h.aD h.To).1)) 0
noncomputable def zm(t:ai)(x:aT):Int×Int:=bif !decide (ckS t x []=0)then(0,ckS t x [])else(aai t x.Links,0)
theorem x3{α σ β:Type}{B:Int→α→(σ→Option β)→σ→Option β}{K:σ→Option β}(f:σ→α→σ)(hB:∀j x Z s,B j x Z s=Z (f s x)):∀(l:List α) (j:Nat) (s:σ),bJ l j B K s=K (l.foldl f s)
 |[],_,_=>rfl
 |x::r,j,s=>by rw[bJ,hB,x3 f hB r (j+1)];rfl
variable {rs:List Int}
theorem agV{t:ai}{x:aT}(h:ckS t x rs=0):lZ t=0:=by
 by_cases h1:lZ t=0
 ·exact h1
 ·unfold ckS at h;rw[decide_eq_false h1]at h;cases h
theorem al7(t:ai)(x:aT)(hx:x.Links.length≤90000):lV t x=some (zm t x):=by
 unfold lV zm;rw[sX t x [] hx (by simp),aI];by_cases h:ckS t x []=0
 ·rw[decide_eq_true h];have hc:=agV h;have hnl:=(oo.1 hc).nl;simp only[Bool.not_true,cond_false];refine(x3 (λn (h:az)=>w64 (n+(gl t h.aD h.To).1)) (λj e Z s=>by rw[ade t _ _ (by omega),if_pos hc,aI]) _ _ _).trans ?_;rfl
 ·rw[decide_eq_false h];rfl
theorem afA(t:ai)(x:aT)(hx:x.Links.length≤90000):nB t x=some (zm t x):=by
 unfold nB zm;rw[p9 t x [] hx (by simp),aI];by_cases h:ckS t x []=0
 ·rw[decide_eq_true h];have hc:=agV h;simp only[Bool.not_true,cond_false];refine(x3 (λn (h:az)=>w64 (n+(gl t h.aD h.To).1)) (λj e Z s=>by rw[adb t,if_pos hc,aI]) _ _ _).trans ?_;rfl
 ·rw[decide_eq_false h];rfl
theorem abK{g:ai}(hv:Vt g){a:ah}(ha:a∈fC g):gl g a.Hop.aD a.Hop.To=(a.dx,true):=by
 obtain⟨l,hl,h⟩:=mA.1 ha;have hlt:=hv.lt l hl;have hne:l.A≠l.B:=by omega
 rcases h with rfl|rfl
 ·show gl g l.A l.B=_;rw[zf hv hl (by simp[jb])];simp[qv]
 ·show gl g l.B l.A=_;rw[zf hv hl (by simp[jb])];simp[qv,hne]
theorem zn{l:List Int}(h:l.Pairwise (·<·)):apV l=true:=l5 (h.imp λh=>by simpa using h)
variable {ay:List ah}{c:Int}{hs:List az}{ts:List Int}
theorem sv{g:ai}(hv:Vt g)(hsub:∀a∈ay,a∈fC g){root:Int}(hr:root∈ids g)(h:mW ay root ts hs c)(h1:rs.Pairwise (·<·))(h2:∀x∈rs,x∈ids g)(h3:∀x∈rs,x∈ts):ckS g (aT.mk root hs) rs=0:=by
 have hV:=al6 hv hsub hr h;unfold ckS;rw[decide_eq_true (oo.2 hv),decide_eq_true (adj.2 hV)];simp only[Bool.not_true,cond_false]
 rw[any_false.2 (λx hx=>by
  rcases List.mem_cons.1 hx with rfl|hx
  ·rw[iI.1 hr];rfl
  ·rw[iI.1 (h2 x hx)];rfl),any_false.2 (λx hx=>by
  obtain⟨⟨Hs,hO,_,hp⟩,_⟩:=h;obtain⟨a,ha,rfl⟩:=List.mem_map.1 (hp.mem_iff.1 hx);rw[abK hv (hsub a (hO.sub a ha))];rfl),zn h1]
 simp only[Bool.not_true,cond_false]
 rw[any_false.2 (λx hx=>by
  have:x∈rF (aT.mk root hs):=(alZ hV).2 (afz h (h3 x hx));rw[decide_eq_true this];rfl)]
 rfl
theorem ai0{A:Type}{f:A→Int}{a b:List A}(h:a.Perm b):(a.map f).sum=(b.map f).sum:=by
 induction h with
 |nil=>rfl
 |cons x _ ih=>simp only[List.map_cons,List.sum_cons,ih]
 |swap x y l=>simp only[List.map_cons,List.sum_cons];omega
 |trans _ _ h1 h2=>rw[h1,h2]
theorem adt{A:Type}{f:A→Int}:∀(l:List A) (s:Int),(∀x∈l,0≤f x∧f x≤1000)→0≤s→s+1000*(l.length:Int)≤1000000000→l.foldl (λn h=>w64 (n+f h)) s=s+(l.map f).sum
 |[],s,_,_,_=>by simp
 |x::r,s,h,h0,hb=>by
  simp only[List.length_cons]at hb;have hx:=h x (by simp);rw[List.foldl_cons,cH (by omega) (by omega),adt r _ (λy hy=>h y (by simp[hy])) (by omega) (by omega),List.map_cons,List.sum_cons];omega
theorem abL{g:ai}(hv:Vt g)(hA:iW ay)(hsub:∀a∈ay,a∈fC g){root:Int}(h:mW ay root ts hs c):aai g hs=c:=by
 have hl:=sV hA h;obtain⟨⟨Hs,hO,rfl,hp⟩,_⟩:=h;have hpr:∀a∈Hs,(gl g a.Hop.aD a.Hop.To).1=a.dx:=λa ha=>by rw[abK hv (hsub a (hO.sub a ha))]
 unfold aai;refine(adt (f:=λh:az=>(gl g h.aD h.To).1) hs 0 (λx hx=>?_) (by omega) (by omega)).trans ?_
 ·obtain⟨a,ha,rfl⟩:=List.mem_map.1 (hp.mem_iff.1 hx);rw[hpr a ha];have:=hA.cost a (hO.sub a ha);omega
 ·rw[ai0 hp,List.map_map,Int.zero_add];unfold dG;congr 1;exact List.map_congr_left λa ha=>hpr a ha
end
section
variable {l:List Int}
theorem apW(hl:l.length≤1000000)(ha:l.Pairwise (·<·))(x:Int):∃i,eG l x=some (i,decide (x∈l)):=by
 have e:bsT (λy:Int=>eM y x) l=decide (x∈l):=by
  rw[Bool.eq_iff_iff,decide_eq_true_eq,aaX (oK (ha.imp λ{a b} h=>?_))]
  ·constructor
   ·rintro⟨y,hy,h⟩;rw[jx]at h;subst h;exact hy
   ·intro h;exact⟨x,h,jx.2 rfl⟩
  ·unfold eM;repeat' split
   all_goals omega
 refine⟨(bsR (λy:Int=>eM y x) l:Int),?_⟩;rw[←e];unfold eG
 have less:∀y:Int,lS y x=some (decide (y<x)):=λy=>by
  unfold lS fN;simp[aI]
 refine aaW l (λy:Int=>eM y x) hl λi j Z hj=>?_;by_cases hij:i<j
 ·rw[dif_pos hij];simp only[aaV (i:=i) (j:=j) (by omega),qU (show(i+j) / 2<l.length by omega),aI,less,mQ];rw[if_pos (by omega),cH (by omega) (by omega)];by_cases h:el l ((i+j) / 2:Nat)<x
  ·rw[if_pos h,if_pos (xW.2 h)];rfl
  ·rw[if_neg h,if_neg (λhh=>h (xW.1 hh))]
 ·rw[dif_neg hij];simp only[mQ];rw[if_neg (by omega)];by_cases hi:i<l.length
  ·rw[if_pos (by omega),qU hi];simp only[aI,iV];by_cases h:el l i=x
   ·rw[if_pos h,decide_eq_true hi,decide_eq_true (jx.2 h)];rfl
   ·rw[if_neg h,decide_eq_true hi,decide_eq_false (λhh=>h (jx.1 hh))];simp
  ·rw[if_neg (by omega)];simp[hi]
abbrev RM:=List (az×Int)
instance hopDec:DecidableEq az:=λa b=>decidable_of_iff (bA a b=true) (fO a b)
theorem uD(l:RM)(n m:az)(v:Int):bZ bA (er bA l n v) m=if m=n then some v else bZ bA l m:=by
 induction l with
 |nil=>
  simp only[er,bZ,List.find?_cons,List.find?_nil];cases h:bA m n with
  |true=>rw[if_pos ((fO _ _).1 h)];rfl
  |false=>rw[if_neg (λe=>by rw[(fO m n).2 e]at h;cases h)]
 |cons p r ih=>
  simp only[er];cases hn:bA n p.1 with
  |true=>
   have hn:=(fO _ _).1 hn;simp only[cond_true,bZ,List.find?_cons];rw[←hn];cases h:bA m n with
   |true=>rw[if_pos ((fO _ _).1 h)];rfl
   |false=>rw[if_neg (λe=>by rw[(fO m n).2 e]at h;cases h)]
  |false=>
   simp only[cond_false,bZ,List.find?_cons];cases h:bA m p.1 with
   |true=>
    have h:=(fO _ _).1 h;rw[if_neg (λe=>by rw[←e,h,(fO p.1 p.1).2 rfl]at hn;cases hn)]
   |false=>
    have:=ih;simp only[bZ]at this;exact this
theorem ab7{l:RM}(hd:(l.map (·.1)).Nodup){n:az}{v:Int}(h:(n,v)∈l):bZ bA l n=some v:=by
 induction l with
 |nil=>cases h
 |cons p r ih=>
  simp only[List.map_cons,List.nodup_cons]at hd;simp only[bZ,List.find?_cons];rcases List.mem_cons.1 h with rfl|h
  ·rw[(fO n n).2 rfl];rfl
  ·cases he:bA n p.1 with
   |true=>rw[(fO _ _).1 he]at h;exact(hd.1 (List.mem_map.2 ⟨_,h,rfl⟩)).elim
   |false=>exact ih hd.2 h
theorem abb{l:RM}{n:az}:bZ bA l n=none↔n∉l.map (·.1):=by
 simp only[bZ,Option.map_eq_none_iff,List.find?_eq_none,List.mem_map];constructor
 ·rintro h ⟨p,hp,rfl⟩;exact h p hp ((fO _ _).2 rfl)
 ·intro h p hp he;exact h ⟨p,hp,((fO _ _).1 he).symm⟩
theorem aej(l:RM)(n:az)(v:Int):(er bA l n v).map (·.1)=if n∈l.map (·.1)then l.map (·.1)else l.map (·.1)++[n]:=by
 induction l with
 |nil=>simp[er]
 |cons p r ih=>
  simp only[er];cases hn:bA n p.1 with
  |true=>
   have hn:=(fO _ _).1 hn;simp[hn]
  |false=>
   have hne:n≠p.1:=λe=>by rw[(fO n p.1).2 e]at hn;cases hn
   simp only[cond_false,List.map_cons,ih,List.mem_cons,hne,false_or];split<;>simp
theorem afB{l:RM}(h:(l.map (·.1)).Nodup)(n:az)(v:Int):((er bA l n v).map (·.1)).Nodup:=by
 rw[aej];split
 ·exact h
 ·rename_i hn;rw[List.nodup_append];exact⟨h,by simp,λa ha b hb=>by rw[List.mem_singleton]at hb;subst hb;exact λe=>hn (e▸ha)⟩
theorem agW{α σ:Type}{B:Int→α→(σ→Option Int)→σ→Option Int}{K:σ→Option Int}(p:α→Bool)(hB:∀j x Z s,B j x Z s=bif p x then some j else Z s)(hK:∀s,K s=some (-1)):∀(l:List α) (j:Nat) (s:σ),
  (bJ l j B K s=some (-1)∧∀x∈l,p x=false)∨∃k,k<l.length∧bJ l j B K s=some ((j+k:Nat):Int)∧(∀x∈l.take k,p x=false)∧∃x,l[k]?=some x∧p x=true
 |[],j,s=>.inl ⟨hK s,λx hx=>by cases hx⟩
 |x::r,j,s=>by
  simp only[bJ,hB];cases hp:p x
  ·rcases agW p hB hK r (j+1) s with⟨h1,h2⟩|⟨k,h1,h2,h3,h4⟩
   ·refine .inl ⟨by simpa using h1,λy hy=>?_⟩;rcases List.mem_cons.1 hy with rfl|hy
    ·exact hp
    ·exact h2 y hy
   ·refine .inr ⟨k+1,by simpa using h1,by simp only[cond_false,h2];congr 2;omega,λy hy=>?_,by simpa using h4⟩;rw[List.take_succ_cons]at hy;rcases List.mem_cons.1 hy with rfl|hy
    ·exact hp
    ·exact h3 y hy
  ·exact .inr ⟨0,by simp,by simp,(λy hy=>by simp at hy),x,by simp,hp⟩
theorem al8(l:List ah)(hl:l.length≤1000000)(f:ah→Option Bool)(p:ah→Bool)(hf:∀x,f x=some (p x)):dH l f=some (l.filter λx=>!p x):=by
 unfold dH ez;rcases agW (B:=λ(j1:Int) (e1:ah) (Z1:Unit→Option Int) (sg:Unit)=>match sg with|()=>bnd (f e1) λ(aq:Bool)=>bif aq then some (j1:Int)else Z1 ()) (K:=λ(sg:Unit)=>match sg with|()=>some (-1:Int)) p (λj x Z s=>by simp only[hf,aI]) (λ_=>rfl) l 0 ()with⟨h1,h2⟩|⟨k,h1,h2,h3,x,h4,h5⟩
 ·rw[h1,aI,decide_eq_true rfl,cond_true,List.filter_eq_self.2 λx hx=>by rw[h2 x hx];rfl]
 ·have hk:(l.take (k+1)).filter (λx=>!p x)=l.take k:=by
   rw[List.take_add_one,h4,List.filter_append,List.filter_eq_self.2 λx hx=>by rw[h3 x hx];rfl];simp[h5]
  rw[h2,aI,Nat.zero_add,decide_eq_false (by omega),cond_false]
  refine Ok.eq (Ok.whl (λsg:List ah×Int×Int=>∃i j:Nat,sg.2.1=i∧sg.2.2=j∧i<j∧j≤l.length∧sg.1.length=l.length∧sg.1.take i=(l.take j).filter (λx=>!p x)∧sg.1.drop j=l.drop j) (λsg=>l.length-sg.2.2.toNat)
   ⟨k,k+1,rfl,by simp only;rw[cH (by omega) (by omega)];rfl,by omega,by omega,rfl,hk.symm,rfl⟩ (by simp only;omega) ?_)
  rintro⟨vs,i,j⟩ Z ⟨i,j,rfl,rfl,hij,hjl,hlen,ht,hd⟩ hZ;simp only at hlen ht hd hZ ⊢;rw[hlen];by_cases hlt:j<l.length
  ·rw[decide_eq_true (by omega),cond_true];have hj:vs[j]?=some l[j]:=by
    have:=congrArg (·[0]?) hd;simpa [List.getElem?_drop,List.getElem?_eq_getElem hlt]using this
   have e1:elO vs (j:Int)=some l[j]:=by unfold elO;rw[if_pos (by omega),Int.toNat_natCast];exact hj
   have hjn:w64 ((j:Int)+1)=((j+1:Nat):Int):=by rw[cH (by omega) (by omega)];rfl
   have hdn:vs.drop (j+1)=l.drop (j+1):=by
    have:=congrArg (List.drop 1) hd;simpa [List.drop_drop,Nat.add_comm]using this
   have htn:l.take (j+1)=l.take j++[l[j]]:=by rw[List.take_add_one,List.getElem?_eq_getElem hlt];rfl
   simp only[jn,e1,aI,hf];cases hp:p l[j]with
   |true=>
    simp only[Bool.not_true,cond_false];refine hZ _ ⟨i,j+1,rfl,hjn,by omega,by omega,hlen,?_,hdn⟩ (by simp only[hjn];omega);rw[ht,htn,List.filter_append];simp[hp]
   |false=>
    simp only[Bool.not_false,cond_true];have e2:elO vs (i:Int)=some (vs[i]'(by omega)):=by unfold elO;rw[if_pos (by omega),Int.toNat_natCast];exact List.getElem?_eq_getElem (by omega)
    have e3:nu vs (i:Int) l[j]=some (vs.set i l[j]):=by obtain⟨m,g1,g2,_⟩:=xu (l:=vs) (i:=(i:Int)) (x:=l[j]) (by omega) (by omega);rw[g1,g2,Int.toNat_natCast]
    have hin:w64 ((i:Int)+1)=((i+1:Nat):Int):=by rw[cH (by omega) (by omega)];rfl
    simp only[e2,aI,e3];refine hZ _ ⟨i+1,j+1,hin,hjn,by omega,by omega,by simp[hlen],?_,?_⟩ (by simp only[hjn];omega)
    ·rw[List.take_add_one,List.take_set_of_le (Nat.le_refl _),ht,htn,List.filter_append];simp[hp,List.getElem?_set,show i<vs.length by omega]
    ·rw[List.drop_set_of_lt (by omega)];exact hdn
  ·obtain rfl:j=l.length:=by omega
   rw[decide_eq_false (by omega),cond_false];refine Ok.chk (by simp;omega) ?_;rw[List.take_length]at ht;obtain⟨m,g1,g2,_⟩:=uz (l:=vs.take (i:Int).toNat++List.replicate (l.length-(i:Int).toNat) (ah.mk (az.mk (0:Int) (0:Int)) (0:Int))) (a:=0) (b:=(i:Int)) (by simp;omega);rw[g1,aI];refine Ok.s ?_;rw[g2,Int.toNat_natCast,List.take_append_of_le_length (by simp;omega),List.take_take,Nat.min_self,ht];rfl
def cC(r:RM)(h:az):Int:=(bZ bA r h).getD 0
def dB(g:ai)(r:RM)(n:Int):List ah:=(fC g).filter λa=>decide (n≤cC r a.Hop)
theorem jN{g:ai}{r:RM}{n:Int}{a:ah}:a∈dB g r n↔a∈fC g∧n≤cC r a.Hop:=by simp[dB]
theorem ai1{a b:List ah}(h:∀x∈a,x∈b)(hl:a.length≤1000)(hb:iW b):iW a:=⟨λx hx=>hb.cost x (h x hx),λx hx=>hb.to x (h x hx),λx hx y hy=>hb.hop x (h x hx) y (h y hy),hl⟩
theorem nT{g:ai}(hv:Vt g)(r:RM)(n:Int):iW (dB g r n):=ai1 (λ_ h=>(jN.1 h).1) (by have:=List.length_filter_le (λa:ah=>decide (n≤cC r a.Hop)) (fC g);have:=oM g;have:=hv.nl;unfold dB;omega) (aa4 hv)
theorem afC{g:ai}(hv:Vt g)(r:RM)(n:Int):∃m,ff r g n=some m∧m.Perm (dB g r n):=by
 obtain⟨m,hm,hp⟩:=asL hv;have hl:=hp.length_eq;rw[oM]at hl;have:=hv.nl;unfold ff;rw[hm,aI,al8 m (by omega) (λy0=>iq y0 r n) (λa=>decide (cC r a.Hop<n)) (λx=>rfl),aI];refine⟨_,rfl,?_⟩
 have e:(λx:ah=>!decide (cC r x.Hop<n))=λa=>decide (n≤cC r a.Hop):=by
  funext a;rw[Bool.eq_iff_iff];simp
 rw[e];exact hp.filter _
structure ReI(ay:List ah)(root:Int)(out:List Int)(m:List (Int×Bool)):Prop where
 nd:out.Nodup
 con:∀x∈out,Con bz ay root x
 root:root∈out
 map:∀x,(aY m x).getD false=decide (x∈out)
variable {H:List ah}{u:Int}
theorem x4{v:Int}(h:Con bz H v u):u=v∨∃a∈H,a.Hop.To=u:=by
 induction h with
 |refl v=>exact .inl rfl
 |step a ha _ ih=>
  rcases ih with h|h
  ·exact .inr ⟨a,ha,h.symm⟩
  ·exact .inr h
theorem aaj{v:Int}(h:Con bz H v u)(hc:∀a∈H,a.Hop.aD∈l→a.Hop.To∈l)(hv:v∈l):u∈l:=by
 induction h with
 |refl v=>exact hv
 |step a ha _ ih=>exact ih (hc a ha hv)
variable {ay:List ah}
theorem agX{root:Int}{out:List Int}{m:List (Int×Bool)}(h:ReI ay root out m):out.length≤ay.length+1:=by
 have:=p8 (b:=root::ay.map (·.Hop.To)) h.nd λx hx=>by
  rcases x4 (h.con x hx)with rfl|⟨a,ha,rfl⟩
  ·simp
  ·exact List.mem_cons_of_mem _ (List.mem_map.2 ⟨a,ha,rfl⟩)
 simpa using this
theorem qt(hl:ay.length≤1000)(root:Int):Ok (kL ay root) λl=>l.Pairwise (·<·)∧∀x,x∈l↔Con bz ay root x:=by
 unfold kL;refine Ok.whl (λsg:List Int×Int×List (Int×Bool)=>ReI ay root sg.1 sg.2.2∧∃i:Nat,sg.2.1=i∧i≤sg.1.length∧∀k,k<i→∀a∈ay,sg.1[k]?=some a.Hop.aD→a.Hop.To∈sg.1) (λsg=>2000-sg.2.1.toNat) ?_ (by simp only;omega) ?_
 ·refine⟨⟨by simp,?_,by simp,λx=>?_⟩,0,rfl,by simp,λk hk=>by omega⟩
  ·intro x hx;rw[List.mem_singleton]at hx;subst hx;exact .refl _
  ·simp only[bN,aY,List.find?_cons,List.find?_nil,List.mem_singleton];by_cases h:x=root
   ·subst h;simp
   ·have:¬root=x:=λe=>h e.symm;simp[h,this]
 ·rintro⟨out,i,m⟩ Z ⟨hI,i,rfl,hi,hcl⟩ hZ;simp only at hI hi hcl hZ ⊢;have hlen:=agX hI;by_cases hlt:i<out.length
  ·rw[decide_eq_true (by omega),cond_true];refine Ok.nX (λpre (sg:List Int×List (Int×Bool))=>ReI ay root sg.1 sg.2∧out <+: sg.1∧∀a∈pre,out[i]?=some a.Hop.aD→a.Hop.To∈sg.1) ?_ _ ⟨hI,List.prefix_refl _,λk hk=>by cases hk⟩ ?_
   ·rintro pre a rest ⟨o,m⟩ Y hL ⟨h1,h2,h3⟩ hY;have ha:a∈ay:=by rw[hL];simp
    simp only at h1 h2 h3 hY ⊢;obtain⟨t,rfl⟩:=h2;have hoi:(out++t)[i]?=some out[i]:=by rw[List.getElem?_append_left hlt];exact List.getElem?_eq_getElem hlt
    have e1:elO (out++t) (i:Int)=some out[i]:=by unfold elO;rw[if_pos (by simp),Int.toNat_natCast];exact hoi
    have hmap:=h1.map a.Hop.To
    have hstep:∀o2:List Int,(∀x∈out++t,x∈o2)→(out[i]?=some a.Hop.aD→a.Hop.To∈o2)→∀b∈pre++[a],out[i]?=some b.Hop.aD→b.Hop.To∈o2:=λo2 hs hn b hb hf=>by
     rcases List.mem_append.1 hb with hb|hb
     ·exact hs _ (h3 b hb hf)
     ·rw[List.mem_singleton]at hb;subst hb
      exact hn hf
    simp only[jn,e1,aI];by_cases hf:a.Hop.aD=out[i]
    ·rw[decide_eq_true hf,cond_true,hmap];by_cases hin:a.Hop.To∈out++t
     ·rw[decide_eq_true hin];simp only[Bool.not_true,cond_false];exact hY _ ⟨h1,List.prefix_append _ _,hstep _ (λ_ h=>h) λ_=>hin⟩
     ·rw[decide_eq_false hin];simp only[Bool.not_false,cond_true];have:=agX h1;rw[jv (by simp only[List.length_cons,List.length_nil];omega),aI];refine hY _ ⟨⟨?_,?_,?_,λx=>?_⟩,by simp only[List.append_assoc];exact List.prefix_append _ _,hstep _ (λx hx=>List.mem_append_left _ hx) λ_=>by simp⟩
      ·rw[List.nodup_append];exact⟨h1.nd,by simp,λx hx y hy=>by rw[List.mem_singleton]at hy;subst hy;exact λe=>hin (e▸hx)⟩
      ·intro x hx;rcases List.mem_append.1 hx with hx|hx
       ·exact h1.con x hx
       ·rw[List.mem_singleton]at hx;subst hx
        have hc:=h1.con out[i] (List.mem_append_left _ (List.getElem_mem hlt));rw[←hf]at hc;exact hc.trans (Con.one (N:=bz) ha)
      ·exact List.mem_append_left _ h1.root
      ·have:=h1.map x;simp only[adg]at this ⊢;by_cases hx:x=a.Hop.To
       ·subst hx;simp
       ·rw[if_neg hx,this];simp[hx]
    ·rw[decide_eq_false hf,cond_false];simp only[cond_false];exact hY _ ⟨h1,List.prefix_append _ _,hstep _ (λ_ h=>h) λhe=>absurd (by rw[List.getElem?_eq_getElem hlt]at he;injection he with he;exact he.symm) hf⟩
   ·rintro⟨o,m⟩ ⟨h1,h2,h3⟩;simp only at h1 h2 h3 ⊢;have hi1:w64 ((i:Int)+1)=((i+1:Nat):Int):=by rw[cH (by omega) (by omega)];rfl
    have hle:=h2.length_le;refine hZ _ ⟨h1,i+1,hi1,by simp only;omega,λk hk a ha he=>?_⟩ (by simp only[hi1];omega);simp only at he ⊢;by_cases hki:k=i
    ·subst hki;exact h3 a ha (by rw[←he];obtain⟨t,rfl⟩:=h2;exact(List.getElem?_append_left hlt).symm)
    ·have hk2:k<i:=by omega
     refine h2.subset (hcl k hk2 a ha ?_);rw[←he];obtain⟨t,rfl⟩:=h2;exact(List.getElem?_append_left (by omega)).symm
  ·obtain rfl:i=out.length:=by omega
   rw[decide_eq_false (by omega),cond_false];refine Ok.chk (by simp;omega) (Ok.s ⟨ac9 hI.nd,λx=>?_⟩);rw[xB];refine⟨hI.con x,λh=>aaj h (λa ha hf=>?_) hI.root⟩;obtain⟨k,hk⟩:=List.getElem?_of_mem hf;exact hcl k (List.getElem?_eq_some_iff.1 hk).1 a ha hk
end
section
structure DOk(g:ai)(d:aN):Prop where
 root:d.bw∈ids g
 asc:d.aV.Pairwise (·<·)
 recv:∀x∈d.aV,x∈ids g
 len:d.aV.length≤6
 fu:1≤d.bM∧d.bM≤1000
variable {d:aN}
theorem agY{g:ai}(hv:Vt g)(h:DOk g d):jH g d=some 0:=by
 have hl:=h.len;have hr:=h.fu;have hnr:=hv.nr;unfold jH;rw[decide_eq_false (by omega),cond_false]
 refine(nF (λa b:Int=>decide (a<b)) (some 25) (λj x y r q s Z hL hj=>by
  simp only[mz hL hj (by omega),aI];by_cases h:y<x
  ·have:¬x≤y:=by omega
   simp[h,this]
  ·have:x≤y:=by omega
   simp[h,this]) _).trans ?_
 rw[show gW (λa b:Int=>decide (a<b)) d.aV=true from zn h.asc,cond_true];show bnd (gn _ _) _=_;rw[jv (by simp;omega),aI]
 refine(fh (λr=>!hasB g r) (some 4) (λj x Z s=>by
  rw[aed g x (by omega),aI,decide_eq_true (oo.2 hv),Bool.true_and]) _ _ _).trans ?_
 rw[any_false.2 λx hx=>by
  rcases List.mem_append.1 hx with hx|hx
  ·rw[List.mem_singleton]at hx;subst hx;rw[iI.1 h.root];rfl
  ·rw[iI.1 (h.recv x hx)];rfl]
 simp only[cond_false];rw[decide_eq_false (by omega),decide_eq_false (by omega)];rfl
variable {ds:List aN}
theorem tF{g:ai}(hv:Vt g)(h:∀d∈ds,DOk g d)(hl:ds.length≤12):ga g ds=some 0:=by
 unfold ga;rw[xy,aI,decide_eq_true (oo.2 hv),Bool.not_true,cond_false,decide_eq_false (by omega),cond_false];refine Ok.eq (Ok.forM (λ_ _=>True) (λj x s Z hj hx _ hZ=>?_) _ trivial λs _=>⟨0,rfl,rfl⟩);simp only[agY hv (h x hx),aI];exact hZ _ trivial
structure gJ(g:ai)(r:RM):Prop where
 nd:(r.map (·.1)).Nodup
 key:∀h,h∈r.map (·.1)↔∃a∈fC g,a.Hop=h
 val:∀h v,bZ bA r h=some v→0≤v∧v≤1000
variable {r:RM}
theorem gJ.rg{g:ai}(h:gJ g r)(x:az):0≤cC r x∧cC r x≤1000:=by
 unfold cC;cases hg:bZ bA r x with
 |none=>simp
 |some v=>exact h.val x v hg
theorem gJ.some{g:ai}{r:RM}(h:gJ g r){a:ah}(ha:a∈fC g):(bZ bA r a.Hop).isSome=true:=by
 cases hg:bZ bA r a.Hop with
 |none=>exact absurd ((h.key _).2 ⟨a,ha,rfl⟩) (abb.1 hg)
 |some v=>rfl
def whS(m:RM)(l:bk):RM:=er bA (er bA m (az.mk l.A l.B) l.dZ) (az.mk l.B l.A) l.dZ
def nI(g:ai):RM:=g.Links.foldl whS []
structure WhI(ls:List bk)(m:RM):Prop where
 nd:(m.map (·.1)).Nodup
 get:∀h v,bZ bA m h=some v→∃l∈ls,(h=az.mk l.A l.B∨h=az.mk l.B l.A)∧v=l.dZ
 key:∀l∈ls,az.mk l.A l.B∈m.map (·.1)∧az.mk l.B l.A∈m.map (·.1)
theorem sY{l:RM}{n:az}{v:Int}{h:az}:h∈(er bA l n v).map (·.1)↔h=n∨h∈l.map (·.1):=by
 rw[aej];split
 ·rename_i hn;exact⟨.inr,λhh=>hh.elim (λe=>e▸hn) id⟩
 ·rw[List.mem_append,List.mem_singleton,or_comm]
theorem adu:∀(ls pre:List bk) (m:RM),WhI pre m→WhI (pre++ls) (ls.foldl whS m)
 |[],pre,m,h=>by simpa using h
 |x::r,pre,m,h=>by
  have:WhI (pre++[x]) (whS m x):=by
   refine⟨afB (afB h.nd _ _) _ _,λk v hk=>?_,λl hl=>?_⟩
   ·unfold whS at hk;rw[uD,uD]at hk;split at hk
    ·rename_i e;cases hk
     exact⟨x,by simp,.inr e,rfl⟩
    ·split at hk
     ·rename_i e;cases hk
      exact⟨x,by simp,.inl e,rfl⟩
     ·obtain⟨l,h1,h2⟩:=h.get k v hk;exact⟨l,by simp[h1],h2⟩
   ·unfold whS;rw[sY,sY,sY,sY];rcases List.mem_append.1 hl with hl|hl
    ·exact⟨.inr (.inr (h.key l hl).1),.inr (.inr (h.key l hl).2)⟩
    ·rw[List.mem_singleton]at hl;subst hl
     exact⟨.inr (.inl rfl),.inl rfl⟩
  have:=adu r (pre++[x]) _ this;simpa using this
theorem apX(g:ai):WhI g.Links (nI g):=by
 have:=adu g.Links [] [] ⟨by simp,λh v hk=>by simp[bZ]at hk,λl hl=>by cases hl⟩;unfold nI;simpa using this
theorem xF(g:ai):gB g=some (nI g):=by
 unfold gB;exact x3 whS (λj x Z s=>rfl) _ _ _
theorem adv{g:ai}(hv:Vt g):gJ g (nI g):=by
 have hW:=apX g;refine⟨hW.nd,λh=>⟨λhk=>?_,?_⟩,λh v hk=>?_⟩
 ·obtain⟨p,hp,rfl⟩:=List.mem_map.1 hk;obtain⟨l,h1,h2,_⟩:=hW.get p.1 p.2 (ab7 hW.nd hp);rcases h2 with h2|h2
  ·exact⟨_,mA.2 ⟨l,h1,.inl rfl⟩,h2.symm⟩
  ·exact⟨_,mA.2 ⟨l,h1,.inr rfl⟩,h2.symm⟩
 ·rintro⟨a,ha,rfl⟩;obtain⟨l,hl,rfl|rfl⟩:=mA.1 ha
  ·exact(hW.key l hl).1
  ·exact(hW.key l hl).2
 ·obtain⟨l,h1,_,rfl⟩:=hW.get h v hk;have:=hv.okl l h1;simp only[oJ,Bool.or_eq_false_iff,decide_eq_false_iff_not]at this;omega
variable {hs:List az}
theorem ai2{g:ai}(hr:gJ g r){root n:Int}(hn:1≤n∧n≤1000)(hd:hs.Nodup)(hs1:∀h∈hs,(∃a∈fC g,a.Hop=h)∧n≤cC r h):
  Ok (cI r (aT.mk root hs) n) λp=>p.1=true∧gJ g p.2∧∀h,cC p.2 h=cC r h-if h∈hs then n else 0:=by
 unfold cI;refine Ok.nX (λpre (sg:Bool×RM)=>sg.1=true∧gJ g sg.2∧∀h,cC sg.2 h=cC r h-if h∈pre then n else 0) ?_ _ ⟨rfl,hr,λh=>by simp⟩ ?_
 ·rintro pre x rest ⟨f,m⟩ Z hL ⟨rfl,h2,h3⟩ hZ;simp only at h2 h3 hZ ⊢;have hL:hs=pre++x::rest:=hL;have hx:x∈hs:=by rw[hL];simp
  have hxp:x∉pre:=λh=>by
   rw[hL,List.nodup_append]at hd;exact hd.2.2 x h x (by simp) rfl
  obtain⟨⟨a,ha,rfl⟩,hle⟩:=hs1 x hx;have hg:=h3 a.Hop;rw[if_neg hxp]at hg;have hrg:=h2.rg a.Hop;have hw:w64 (((bZ bA m a.Hop).getD (0:Int))-n)=cC m a.Hop-n:=by
   show w64 (cC m a.Hop-n)=_;exact cH (by omega) (by omega)
  have dN:∀h,cC (er bA m a.Hop (cC m a.Hop-n)) h=if h=a.Hop then cC m a.Hop-n else cC m h:=λh=>by
   unfold cC;rw[uD];split<;>simp
  refine Ok.chk (h2.some ha) ?_;rw[cond_true,hw];refine hZ _ ⟨?_,⟨afB h2.nd _ _,λh=>?_,λh v hk=>?_⟩,λh=>?_⟩
  ·have:=dN a.Hop;rw[if_pos rfl]at this;show decide (0≤cC (er bA m a.Hop (cC m a.Hop-n)) a.Hop)=true;rw[this,decide_eq_true];omega
  ·rw[sY,h2.key];exact⟨λhh=>hh.elim (λe=>⟨a,ha,e.symm⟩) id,.inr⟩
  ·rw[uD]at hk;split at hk
   ·cases hk;omega
   ·exact h2.val h v hk
  ·simp only;rw[dN];by_cases he:h=a.Hop
   ·subst he;rw[if_pos rfl,if_pos (by simp)];omega
   ·rw[if_neg he,h3 h];by_cases hp:h∈pre
    ·rw[if_pos hp,if_pos (by simp[hp])]
    ·rw[if_neg hp,if_neg (by simp[hp,he])]
 ·rintro⟨f,m⟩ h;exact Ok.s h
def Step(g:ai)(r:RM)(d:aN)(t:aT)(r':RM):Prop:=
 (∃hs c,t=aT.mk d.bw hs∧mW (dB g r d.bM) d.bw d.aV hs c∧cI r t d.bM=some (true,r'))∨(t=aT.mk 0 []∧(¬∀x,x∈d.aV→Con bz (dB g r d.bM) d.bw x)∧r'=r)
inductive Pl(g:ai):List aN→List aT→RM→Prop
 |nil:Pl g [] [] (nI g)
 |snoc {ds:List aN} {out:List aT} {r r':RM} {d:aN} {t:aT} (h:Pl g ds out r) (hs:Step g r d t r'):Pl g (ds++[d]) (out++[t]) r'
variable {ay:List ah}{c:Int}{ts:List Int}
theorem xG(hA:iW ay){root:Int}(h:mW ay root ts hs c):hs.Nodup∧∀x∈hs,∃a∈ay,a.Hop=x:=by
 refine⟨h.asc.imp λ{a b} hlt e=>?_,λx hx=>?_⟩
 ·subst e;simp[cZ]at hlt
 ·obtain⟨⟨Hs,hO,_,hp⟩,_⟩:=h;obtain⟨a,ha,rfl⟩:=List.mem_map.1 (hp.mem_iff.1 hx);exact⟨a,hO.sub a ha,rfl⟩
theorem xH{g:ai}(hv:Vt g)(hr:gJ g r)(hd:DOk g d){root:Int}(h:mW (dB g r d.bM) root d.aV hs c):
  Ok (cI r (aT.mk d.bw hs) d.bM) λp=>p.1=true∧gJ g p.2∧∀h,cC p.2 h=cC r h-if h∈hs then d.bM else 0:=by
 obtain⟨h1,h2⟩:=xG (nT hv r d.bM) h;refine ai2 hr hd.fu h1 λx hx=>?_;obtain⟨a,ha,rfl⟩:=h2 x hx;have:=jN.1 ha;exact⟨⟨a,this.1,rfl⟩,this.2⟩
theorem Step.ok{g:ai}(hv:Vt g){r':RM}{t:aT}(h:Step g r d t r')(hr:gJ g r)(hd:DOk g d):gJ g r':=by
 rcases h with⟨hs,c,rfl,hb,ht⟩|⟨_,_,rfl⟩
 ·obtain⟨p,h1,_,h3,_⟩:=xH hv hr hd hb;rw[ht]at h1;cases h1
  exact h3
 ·exact hr
theorem Pl.ok{g:ai}(hv:Vt g){ds:List aN}{out:List aT}{r:RM}(h:Pl g ds out r)(hd:∀d∈ds,DOk g d):gJ g r:=by
 induction h with
 |nil=>exact adv hv
 |snoc h hs ih=>exact hs.ok hv (ih λd hd'=>hd d (by simp[hd'])) (hd _ (by simp))
theorem Pl.len{g:ai}{out:List aT}(h:Pl g ds out r):out.length=ds.length:=by
 induction h with
 |nil=>rfl
 |snoc h hs ih=>simp[ih]
theorem Pl.at{g:ai}{ds:List aN}{out:List aT}{r:RM}(h:Pl g ds out r):∀{i:Nat} {d:aN} {t:aT},ds[i]?=some d→out[i]?=some t→∃ri r',Pl g (ds.take i) (out.take i) ri∧Step g ri d t r':=by
 induction h with
 |nil=>intro i d t h;simp at h
 |@snoc ds out r r' d0 t0 h hs ih=>
  intro i d t h1 h2;have hl:=h.len;by_cases hi:i<ds.length
  ·rw[List.getElem?_append_left hi]at h1;rw[List.getElem?_append_left (by omega)]at h2;obtain⟨ri,r'',g1,g2⟩:=ih h1 h2;exact⟨ri,r'',by rw[List.take_append_of_le_length (by omega),List.take_append_of_le_length (by omega)];exact g1,g2⟩
  ·obtain rfl:i=ds.length:=by
    have:=(List.getElem?_eq_some_iff.1 h1).1;simp at this;omega
   simp at h1;rw[←hl]at h2;simp at h2;subst h1;subst h2
   refine⟨r,r',?_,hs⟩;rw[List.take_left,←hl,List.take_left];exact h
variable {β:Type}
theorem aj6{b:β}{root:Int}{K:(List az×Int×Bool)→Option β}(hA:iW ay)(hl:ts.length≤6)(hK:∀x,ChS ay root ts x→Ok (K x) (λy=>y=b)):Ok (iG ay root ts K) (λy=>y=b):=by
 refine⟨b,?_,rfl⟩;unfold iG;rw[if_pos ⟨hA,hl⟩];refine alF ?_ λx hx=>Ok.eq (hK x hx);by_cases hc:∀t,t∈ts→Con bz ay root t
 ·obtain⟨hs,c,hb⟩:=al1 hA hc;exact⟨(hs,c,true),.inl ⟨rfl,hb⟩⟩
 ·exact⟨([],0,false),.inr ⟨rfl,hc⟩⟩
theorem aek{a b:List ah}(h:a.Perm b){root:Int}{x:List az×Int×Bool}(hx:ChS a root ts x):ChS b root ts x:=by
 rcases hx with⟨h1,h2⟩|⟨h1,h2⟩
 ·exact .inl ⟨h1,agQ h h2⟩
 ·exact .inr ⟨h1,λhh=>h2 λt ht=>(hh t ht).mono λa ha=>h.mem_iff.2 ha⟩
theorem abM{b:β}{g:ai}(hv:Vt g)(hd:∀d∈ds,DOk g d)(hl:ds.length≤12){K:(List aT×Int)→Option β}(hK:∀out r,Pl g ds out r→K (out,0)=some b):iH g ds K=some b:=by
 unfold iH;rw[tF hv hd hl,aI,decide_eq_true rfl,Bool.not_true,cond_false,xF,aI];refine Ok.eq (Ok.chk (by simp;omega) ?_);refine Ok.nX (λpre (sg:List aT×RM)=>∃out,sg.1=out++List.replicate (ds.length-pre.length) (aT.mk 0 [])∧Pl g pre out sg.2) ?_ _ ⟨[],by simp,.nil⟩ ?_
 ·rintro pre d rest ⟨o,m⟩ Z hL ⟨out,h1,h2⟩ hZ;simp only at h1 h2 hZ ⊢;subst h1;have hdd:=hd d (by rw[hL];simp);have hm:=h2.ok hv λd hd'=>hd d (by rw[hL];simp[hd']);have hlen:=h2.len;have hn:ds.length=pre.length+1+rest.length:=by rw[hL];simp;omega
  have fD:List.replicate (ds.length-pre.length) (aT.mk 0 [])=aT.mk 0 []::List.replicate (ds.length-(pre++[d]).length) (aT.mk 0 []):=by
   rw[List.length_append,List.length_singleton,←List.replicate_succ];congr 1;omega
  obtain⟨q,hq,hp⟩:=afC hv m d.bM;simp only[jn,hq,aI];refine aj6 (aa5 hp (nT hv m d.bM)) hdd.len λx hx=>?_;have hx:=aek hp hx;obtain⟨hs,c,ok⟩:=x;rcases hx with⟨e,hb⟩|⟨e,hn⟩
  ·simp only at e hb;subst e;obtain⟨p,g1,g2,g3,g4⟩:=xH hv hm hdd hb;obtain⟨f,m'⟩:=p;simp only at g2 g3 g4;subst g2;have hlt:pre.length<(out++List.replicate (ds.length-pre.length) (aT.mk 0 [])).length:=by simp;omega
   obtain⟨t0,e1,_⟩:=mR (l:=out++List.replicate (ds.length-pre.length) (aT.mk 0 [])) (i:=(pre.length:Int)) (by omega) (by omega);have e2:nu (out++List.replicate (ds.length-pre.length) (aT.mk 0 [])) (pre.length:Int) (aT.mk d.bw hs)=some ((out++[aT.mk d.bw hs])++List.replicate (ds.length-(pre++[d]).length) (aT.mk 0 [])):=by
    obtain⟨w,g5,g6,_⟩:=xu (l:=out++List.replicate (ds.length-pre.length) (aT.mk 0 [])) (i:=(pre.length:Int)) (x:=aT.mk d.bw hs) (by omega) (by omega);rw[g5,g6,fD,Int.toNat_natCast,←hlen,List.set_append_right _ _ (Nat.le_refl _)];simp
   have e3:elO ((out++[aT.mk d.bw hs])++List.replicate (ds.length-(pre++[d]).length) (aT.mk 0 [])) (pre.length:Int)=some (aT.mk d.bw hs):=by
    rw[←hlen,List.append_assoc];exact agA _ _ _
   simp only[cond_true,e1,e2,e3,g1,aI];exact hZ _ ⟨out++[aT.mk d.bw hs],rfl,.snoc h2 (.inl ⟨hs,c,rfl,hb,g1⟩)⟩
  ·injection e with e1 e2
   injection e2 with e2 e3
   subst e1;subst e2;subst e3
   simp only[cond_false];exact hZ _ ⟨out++[aT.mk 0 []],by simp only;rw[fD,List.append_assoc];rfl,.snoc h2 (.inr ⟨rfl,hn,rfl⟩)⟩
 ·rintro⟨o,m⟩ ⟨out,h1,h2⟩;simp only at h1 h2 ⊢;rw[Nat.sub_self,List.replicate_zero,List.append_nil]at h1;subst h1;exact⟨b,hK _ _ h2,rfl⟩
end
section
theorem adT{t:bL}{g:ai}{n:Int}(h:fH t)(hg:1≤g.aC.length∧g.aC.length≤1000)(hn:0≤n∧n≤1000):Ok (mK t g n) (λp=>((∀d∈p.1,DOk g d)∧(p.1.length:Int)≤n)∧fH p.2):=by
 unfold mK;rw[cH (by omega) (by omega)];refine Ok.bnd (f_n h (by omega)) λq hq=>?_;have hq1:=hq.1.2.1 (by omega);refine Ok.whl (λsg:List aN×Int×List Int×Int=>((∀d∈sg.1,DOk g d)∧(sg.1.length:Int)+sg.2.1≤n∧0≤sg.2.1)∧fH (bL.mk sg.2.2.1 sg.2.2.2)) (λsg=>sg.2.1.toNat) ⟨⟨by simp,by simp;omega,hq.1.1⟩,hq.2⟩ (by simp only;omega) ?_;rintro⟨out,i,L,A⟩ Z ⟨⟨h1,h3,h4⟩,h5⟩ hZ;simp only at h1 h3 h4;refine Ok.cs (λhc=>?_) λhc=>Ok.s ⟨⟨h1,by simp only;omega⟩,h5⟩;simp only[decide_eq_true_eq]at hc;refine yD h5 hg λp r hp hr hid=>?_;refine Ok.bnd (aiP (g:=g) hp hg.2 (by omega)) λl hl=>?_;obtain⟨l,t2⟩:=l;obtain⟨⟨l1,l2,l3⟩,ht2⟩:=hl;simp only at l1 l2 l3 ht2 ⊢;refine Ok.bnd (xD ht2 (by simp) (by simp)) λk hk=>?_;obtain⟨hk1,hk2⟩:=hk;simp only[List.mem_cons,List.not_mem_nil,or_false]at hk1;rw[jv (by simp;omega),aI,cH (by omega) (by omega)];refine hZ _ ⟨⟨λd hd=>?_,by simp;omega,by simp only;omega⟩,hk2⟩ (by simp only;omega);rcases List.mem_append.1 hd with hd|hd
 ·exact h1 d hd
 ·rw[List.mem_singleton]at hd;subst hd
  exact⟨hid,l1,l2,by simp only;omega,by simp only;omega⟩
def ldR(p:az×Int):aR:=aR.mk p.1.aD p.1.To p.2
def vR(r:RM):List aR:=r.map ldR
def fA(x:aR):az:=az.mk x.aD x.To
variable {r:RM}
theorem adw{g:ai}(hr:gJ g r):r.length≤2*g.Links.length:=by
 have:=p8 (b:=(fC g).map (·.Hop)) hr.nd λx hx=>by
  obtain⟨a,ha,rfl⟩:=(hr.key x).1 hx;exact List.mem_map.2 ⟨a,ha,rfl⟩
 simpa [oM]using this
theorem ag0{g:ai}(hv:Vt g)(hr:gJ g r):∃l,jJ r=some l∧l.Perm (vR r):=by
 have h1:=adw hr;have h2:=hv.nl;unfold jJ;rw[if_pos (by omega)]
 obtain⟨m,g1,g2,_⟩:=xd (ks:=[λx:aR=>x.aD,λx:aR=>x.To]) (l:=vR r) (by
  unfold vR;rw[List.pairwise_map];exact(List.pairwise_map.1 hr.nd).imp λ{a b} h=>agO h) (by simp[vR];omega)
 exact⟨m,g1,g2⟩
theorem ag1(h:az):∀(ls:List aR) (m:RM),bZ bA (ls.foldl (λm x=>er bA m (az.mk x.aD x.To) x.Count) m) h=((ls.reverse.find? λx=>decide (fA x=h)).map (·.Count)).or (bZ bA m h)
 |[],m=>by simp
 |x::r,m=>by
  rw[List.foldl_cons,ag1 h r,uD,List.reverse_cons,List.find?_append];cases hf:r.reverse.find? λx=>decide (fA x=h)with
  |some y=>simp
  |none=>
   simp only[Option.map_none,Option.none_or,List.find?_cons,List.find?_nil];by_cases he:h=az.mk x.aD x.To
   ·rw[if_pos he,decide_eq_true (show fA x=h from he.symm)];rfl
   ·rw[if_neg he,decide_eq_false (show ¬fA x=h from λe=>he e.symm)];rfl
variable {l:List aR}
theorem ag3(hnd:(r.map (·.1)).Nodup)(hp:l.Perm (vR r))(h:az):bZ bA (qQ l) h=bZ bA r h:=by
 have hmem:∀x,x∈l↔(fA x,x.Count)∈r:=λx=>by
  rw[hp.mem_iff];constructor
  ·intro hx;obtain⟨p,hp,rfl⟩:=List.mem_map.1 hx;exact hp
  ·intro hx;exact List.mem_map.2 ⟨_,hx,rfl⟩
 unfold qQ;rw[ag1,List.reverse_reverse];have e0:bZ bA ([]:RM) h=none:=rfl;rw[e0,Option.or_none];cases hf:l.find? λx=>decide (fA x=h)with
 |some x=>
  have h1:=List.find?_some hf;simp only[decide_eq_true_eq]at h1;subst h1;exact(ab7 hnd ((hmem x).1 (List.mem_of_find?_eq_some hf))).symm
 |none=>
  simp only[Option.map_none];symm;rw[abb];intro hk;obtain⟨p,hp,rfl⟩:=List.mem_map.1 hk;have:=List.find?_eq_none.1 hf (ldR p) ((hmem _).2 hp);simp[fA,ldR]at this
theorem afD{g:ai}(hnd:(r.map (·.1)).Nodup)(hp:l.Perm (vR r))(n:Int):dB g (qQ l) n=dB g r n:=by
 have:∀h,cC (qQ l) h=cC r h:=λh=>by unfold cC;rw[ag3 hnd hp]
 unfold dB;simp only[this]
theorem xI{α σ β:Type}{B:Int→α→(σ→Option β)→σ→Option β}(x:α):∀(l:List α) (j:Nat) (K:σ→Option β) (s:σ),bJ (l++[x]) j B K s=bJ l j B (λs'=>B ((j+l.length:Nat):Int) x K s') s
 |[],j,K,s=>rfl
 |y::r,j,K,s=>by
  simp only[List.cons_append,bJ];congr 1;funext s';rw[xI x r (j+1) K s'];congr 1;funext s2;rw[show j+1+r.length=j+(y::r).length by simp;omega]
variable {ds es:List aN}{out:List aT}
theorem al9{β:Type}{g:ai}(hv:Vt g)(hd:∀d∈ds,DOk g d){B:Int→aT→(RM→Option β)→RM→Option β}
  (hB:∀(j:Nat) d t r r' Z,ds[j]?=some d→Step g r d t r'→gJ g r→DOk g d→B (j:Int) t Z r=Z r')    (h:Pl g es out r):es <+: ds→∀K,bJ out 0 B K (nI g)=K r:=by
 induction h with
 |nil=>intro _ K;rfl
 |@snoc es out r r' d t h hs ih=>
  intro hp K;obtain⟨fs,hf⟩:=hp;rw[xI,ih ⟨d::fs,by rw[←hf];simp⟩,Nat.zero_add,h.len];refine hB _ d t r r' K (by rw[←hf];simp) hs (h.ok hv λd hd'=>hd d (by rw[←hf];simp[hd'])) (hd d (by rw[←hf];simp))
theorem apY{α:Type}{l:List α}{j:Nat}{x:α}(h:l[j]?=some x):elO l (j:Int)=some x:=by unfold elO;rw[if_pos (by omega),Int.toNat_natCast];exact h
theorem ai3(x:aT):ja x=some (decide (x.bw=0)&&decide (x.Links.length=0)):=by
 unfold ja;rw[show decide ((x.Links.length:Int)=0)=decide (x.Links.length=0)by rw[Bool.eq_iff_iff];simp]
theorem abN(r:RM)(root n:Int):cI r (aT.mk root []) n=some (true,r):=rfl
theorem ai4{g:ai}(hv:Vt g)(hd:∀d∈ds,DOk g d)(hl:ds.length≤12)(h:Pl g es out r)(hp:es <+: ds):∃l,gV g ds out=some (l,0)∧l.Perm (vR r):=by
 have hle:=hp.length_le;have hlen:=h.len;obtain⟨l,h1,h2⟩:=ag0 hv (h.ok hv λd hd'=>hd d (hp.subset hd'));refine⟨l,?_,h2⟩;unfold gV;rw[tF hv hd hl,aI,decide_eq_true rfl,Bool.not_true,cond_false,decide_eq_false (by omega),cond_false,xF,aI];refine(al9 hv hd (λj d t r r' Z hj hs hr hdd=>?_) h hp _).trans ?_
 ·simp only[apY hj,ai3,aI,jn];rcases hs with⟨hs,c,rfl,hb,ht⟩|⟨rfl,hn,rfl⟩
  ·have hnz:=(qy hv hdd.root).1;have hlen:=sV (nT hv r d.bM) hb
   rw[decide_eq_false (by simp only;omega),Bool.false_and,Bool.not_false,cond_true,sX _ _ _ (by simp only;omega) (by simp),aI,
    sv hv (λa ha=>(jN.1 ha).1) hdd.root hb List.Pairwise.nil (λx hx=>by cases hx) (λx hx=>by cases hx),decide_eq_true rfl,Bool.not_true,cond_false,ht,aI]
   rfl
  ·simp only[abN,aI,List.length_nil,decide_true,Bool.and_self,Bool.not_true,cond_false]
 ·rw[h1,aI]
theorem ag4{g:ai}(hv:Vt g)(r:RM)(d:aN):∃l,jK g r d=some (l,d.aV.all λx=>decide (x∈l))∧l.Pairwise (·<·)∧∀x,x∈l↔Con bz (dB g r d.bM) d.bw x:=by
 obtain⟨q,hq,hp⟩:=afC hv r d.bM;have hA:=aa5 hp (nT hv r d.bM);obtain⟨l,h1,h2,h3⟩:=qt hA.len d.bw;have hlen:l.length≤1000000:=by
  have:=p8 (b:=d.bw::q.map (·.Hop.To)) (h2.imp λh=>by omega) λx hx=>by
   rcases x4 ((h3 x).1 hx)with rfl|⟨a,ha,rfl⟩
   ·simp
   ·exact List.mem_cons_of_mem _ (List.mem_map.2 ⟨a,ha,rfl⟩)
  have:=hA.len;simp at *;omega
 refine⟨l,?_,h2,λx=>by rw[h3];exact⟨λh=>h.mono λa ha=>hp.mem_iff.1 ha,λh=>h.mono λa ha=>hp.mem_iff.2 ha⟩⟩;unfold jK;rw[hq,aI,h1,aI]
 refine(fh (λx=>!decide (x∈l)) (some (l,false)) (λj x Z s=>by
  obtain⟨i,hi⟩:=apW hlen h2 x;rw[hi,aI]) _ _ _).trans ?_
 have e:(d.aV.any λx=>!decide (x∈l))=!(d.aV.all λx=>decide (x∈l)):=by
  rw[List.any_eq_not_all_not];simp
 rw[e];cases d.aV.all λx=>decide (x∈l)<;>rfl
theorem adU{g:ai}(hv:Vt g)(hr:gJ g r)(hp:l.Perm (vR r)){d:aN}(hd:DOk g d)(hn:¬∀x,x∈d.aV→Con bz (dB g r d.bM) d.bw x):
  ∃w,gI g l d=some (w,0)∧w.Pairwise (·<·)∧∀x,x∈w↔Con bz (dB g r d.bM) d.bw x:=by
 obtain⟨w,h1,h2,h3⟩:=ag4 hv (qQ l) d;rw[afD hr.nd hp]at h3;refine⟨w,?_,h2,h3⟩;have hlen:=hp.length_eq;have:=adw hr;have:=hv.nl;unfold gI mw;rw[tF hv (λx hx=>by rw[List.mem_singleton]at hx;subst hx;exact hd) (by simp),aI,decide_eq_true rfl,Bool.not_true,cond_false,if_pos (by rw[hlen];simp[vR];omega),aI,h1,aI]
 have e:(d.aV.all λx=>decide (x∈w))=false:=by
  cases h:d.aV.all λx=>decide (x∈w)with
  |false=>rfl
  |true=>
   rw[List.all_eq_true]at h;exact absurd (λx hx=>(h3 x).1 (by simpa using h x hx)) hn
 simp only[e,cond_false]
end
section
variable {out:List aT}{r:RM}
theorem Pl.inv{g:ai}{ds:List aN}{d:aN}(h:Pl g (ds++[d]) out r):∃o t r',out=o++[t]∧Pl g ds o r'∧Step g r' d t r:=by
 generalize he:ds++[d]=l at h;cases h with
 |nil=>simp at he
 |snoc h hs=>
  obtain⟨h1,h2⟩:=List.append_inj' he rfl;cases h2;subst h1;exact⟨_,_,_,rfl,h,hs⟩
theorem Pl.inv0{g:ai}(h:Pl g [] out r):out=[]∧r=nI g:=by
 generalize he:([]:List aN)=l at h;cases h with
 |nil=>exact⟨rfl,rfl⟩
 |snoc h hs=>simp at he
theorem adx{ay:List ah}(hA:∀b∈ay,1≤b.dx){a:ah}(ha:a∈ay)(hc:a.dx=1)(hu:∀b∈ay,b.Hop.To=a.Hop.To→b=a)(hne:a.Hop.To≠a.Hop.aD){hs:List az}{c:Int}(h:mW ay a.Hop.aD [a.Hop.To] hs c):hs=[a.Hop]:=by
 obtain⟨⟨Hs,hO,_,hp⟩,_⟩:=h;have h1:=hO.cov a.Hop.To (by simp);have hin:a∈Hs:=by
  rcases x4 h1 with e|⟨b,hb,e⟩
  ·exact absurd e hne
  ·exact hu b (hO.sub b hb) e▸hb
 have h2:=hO.min [a] (by intro x hx;rw[List.mem_singleton]at hx;subst hx;exact ha) (by intro t ht;rw[List.mem_singleton]at ht;subst ht;exact Con.one (N:=bz) (by simp));have e:dG bz [a]=1:=by simp[dG,bz,hc]
 have h3:∀l:List ah,(∀b∈l,b∈ay)→(l.length:Int)≤dG bz l:=λl=>by
  induction l with
  |nil=>intro _;simp[dG]
  |cons b r ih=>
   intro hl;have:=ih λx hx=>hl x (by simp[hx]);have hb:=hA b (hl b (by simp));rw[gu,List.length_cons];have:bz.cost b=b.dx:=rfl;omega
 have h4:=h3 Hs hO.sub;have h5:Hs.length=1:=by
  have:=List.length_pos_of_mem hin;omega
 obtain⟨b,rfl⟩:=List.length_eq_one_iff.1 h5;rw[List.mem_singleton]at hin;subst hin;exact List.perm_singleton.1 hp
def kO:ai:=ai.mk [(bg.mk 1 true),(bg.mk 2 true)] [(bk.mk 1 2 1 1 5)]
theorem ama:lY=some kO:=rfl
theorem x5:Vt kO:=oo.1 (by kernel_rfl)
def a12:ah:=⟨⟨1,2⟩,1⟩
def a21:ah:=⟨⟨2,1⟩,1⟩
def pr1:RM:=[(⟨1,2⟩,2),(⟨2,1⟩,5)]
theorem afE:dB kO (nI kO) 3=[a12,a21]:=by kernel_rfl
theorem vT:dB kO pr1 3=[a21]:=by kernel_rfl
theorem afF:dB kO pr1 4=[a21]:=by kernel_rfl
theorem ael:¬∀x,x∈[(2:Int)]→Con bz [a21] 1 x:=λh=>by
 rcases x4 (h 2 (by simp))with e|⟨b,hb,e⟩
 ·cases e
 ·rw[List.mem_singleton]at hb;subst hb;cases e
def tG:List aN:=[(aN.mk (1:Int) ([(2:Int)]:List Int) (3:Int)),(aN.mk (1:Int) ([(2:Int)]:List Int) (3:Int)),(aN.mk (2:Int) ([(1:Int)]:List Int) (4:Int))]
theorem vU:∀d∈tG,DOk kO d:=by
 intro d hd;simp only[tG,List.mem_cons,List.not_mem_nil,or_false]at hd;rcases hd with rfl|rfl|rfl<;>exact⟨by decide,by simp,by simp[ids,kO],by simp,by simp⟩
theorem amb:mP=some true:=by
 unfold mP;simp only[ama,aI];refine abM x5 vU (by decide) λout r h=>?_
 have hc:∀{r1 r2:RM} {t:aT} {d:aN} {ts:List ah},dB kO r1 d.bM=ts→(∀x,x∈d.aV→Con bz ts d.bw x)→Step kO r1 d t r2→∃hs c,t=aT.mk d.bw hs∧mW ts d.bw d.aV hs c∧cI r1 t d.bM=some (true,r2):=λe hc hs=>by
  subst e;rcases hs with h|⟨_,h,_⟩
  ·exact h
  ·exact absurd hc h
 obtain⟨o,t3,r2,rfl,h,s3⟩:=Pl.inv (ds:=[(aN.mk (1:Int) ([(2:Int)]:List Int) (3:Int)),(aN.mk (1:Int) ([(2:Int)]:List Int) (3:Int))]) h;obtain⟨o,t2,r1,rfl,h,s2⟩:=Pl.inv (ds:=[(aN.mk (1:Int) ([(2:Int)]:List Int) (3:Int))]) h;have hp1:=h;obtain⟨o,t1,r0,rfl,h,s1⟩:=Pl.inv (ds:=[]) h;obtain⟨rfl,rfl⟩:=h.inv0;obtain⟨hs,c,rfl,hb,ht⟩:=hc afE (by intro x hx;rw[List.mem_singleton]at hx;subst hx;exact Con.one (N:=bz) (a:=a12) (by simp)) s1;have e1:hs=[⟨1,2⟩]:=adx (a:=a12) (by decide) (by simp) rfl (by intro b hb h;simp only[List.mem_cons,List.not_mem_nil,or_false]at hb;rcases hb with rfl|rfl;rfl;cases h) (by decide) hb;subst e1;have e1:r1=pr1:=by
  have e:cI (nI kO) (aT.mk 1 [⟨1,2⟩]) 3=some (true,pr1):=by kernel_rfl
  rw[e]at ht;cases ht;rfl
 subst e1;have s2:t2=aT.mk 0 []∧r2=pr1:=by
  rcases s2 with⟨hs,c,_,hb,_⟩|⟨h1,_,h3⟩
  ·obtain⟨⟨Hs,hO,_,_⟩,_⟩:=hb;have hb:=hO.cov;exact absurd (λx hx=>(hb x hx).mono λa ha=>by have:=hO.sub a ha;rwa [show dB kO pr1 _=[a21]from vT]at this) ael
  ·exact⟨h1,h3⟩
 obtain⟨rfl,rfl⟩:=s2;obtain⟨hs,c,rfl,hb,ht⟩:=hc afF (by intro x hx;rw[List.mem_singleton]at hx;subst hx;exact Con.one (N:=bz) (a:=a21) (by simp)) s3;have e1:hs=[⟨2,1⟩]:=adx (a:=a21) (by decide) (by simp) rfl (by intro b hb h;rw[List.mem_singleton]at hb;exact hb) (by decide) hb;subst e1;obtain⟨l,hl,hlp⟩:=ai4 x5 vU (by decide) hp1 ⟨_,rfl⟩;obtain⟨w,hw,hw2,hw3⟩:=adU x5 (hp1.ok x5 λd hd=>vU d (by simp at hd;simp[hd,tG])) hlp (vU (aN.mk (1:Int) ([(2:Int)]:List Int) (3:Int)) (by simp[tG])) (by rw[show dB kO pr1 _=[a21]from vT];exact ael);have ew:w=[1]:=by
  refine xA hw2 (by simp) λx=>?_;rw[hw3,show dB kO pr1 _=[a21]from vT,List.mem_singleton];constructor
  ·intro h;have:=aaj h (l:=[1]) (by intro a ha hf;rw[List.mem_singleton]at ha;subst ha;simp[a21]at hf) (by simp);simpa using this
  ·rintro rfl;exact .refl _
 subst ew;have h0:lH [aT.mk 1 [⟨1,2⟩],aT.mk 0 [],aT.mk 2 [⟨2,1⟩]] (0:Int) (1:Int)=some [aT.mk 1 [⟨1,2⟩]]:=by kernel_rfl
 have hl:gV kO tG [aT.mk 1 [⟨1,2⟩]]=some (l,0):=hl;have h1:elO tG (1:Int)=some (aN.mk (1:Int) ([(2:Int)]:List Int) (3:Int)):=by kernel_rfl
 show(bif (!decide ((0:Int)=0))||(!decide ((3:Int)=3))then some false else bnd (lH [aT.mk 1 [⟨1,2⟩],aT.mk 0 [],aT.mk 2 [⟨2,1⟩]] (0:Int) (1:Int)) λ(l_1:List aT)=>bnd (gV kO tG l_1) λbV=>bnd (elO tG (1:Int)) λe_1=>bnd (gI kO bV.1 e_1) _)=_;rw[h0,aI,hl,aI,h1,aI,hw,aI,apL];rfl
end
section
def jQ(h k:az):Prop:=h.aD<k.aD∨(h.aD=k.aD∧h.To<k.To)
variable {h:az}
theorem qY:¬jQ h h:=by unfold jQ;omega
variable {a b:az}
theorem adV{c:az}(h1:jQ a b)(h2:jQ b c):jQ a c:=by unfold jQ at *;omega
theorem ai5(h1:¬jQ a b)(h2:a≠b):jQ b a:=by
 cases a;cases b
 simp only[jQ,ne_eq,az.mk.injEq]at *;omega
structure LF(K:az→Prop)(f:az→Int)(l:List aR):Prop where
 asc:l.Pairwise λa b=>jQ (fA a) (fA b)
 mem:∀x,x∈l↔K (fA x)∧x.Count=f (fA x)
 zero:∀h,¬K h→f h=0
variable {K:az→Prop}{f:az→Int}{l:List aR}
theorem LF.congr{K':az→Prop}{f':az→Int}(h:LF K f l)(hk:∀h,K h↔K' h)(hf:∀h,f h=f' h):LF K' f' l:=
 ⟨h.asc,λx=>by rw[h.mem,hk,hf],λx hx=>by rw[←hf];exact h.zero x (λhh=>hx ((hk x).1 hh))⟩
theorem ai6{x y:aR}(h:fA x=fA y)(hc:x.Count=y.Count):x=y:=by
 cases x;cases y
 simp only[fA,az.mk.injEq]at h;simp only at hc;rw[h.1,h.2,hc]
theorem aal(h:LF K f l)(u v:Int):jl l u v=some (f (az.mk u v)):=by
 have key:∀(l:List aR) (j:Nat),bJ l j (λ(j1:Int) (e1:aR) (Z1:Unit→Option Int) (sg:Unit)=>match sg with|()=>bif ((decide (e1.aD=u))&&(decide (e1.To=v)))then some e1.Count else Z1 ()) (λ(sg:Unit)=>match sg with|()=>some (0:Int)) ()=some (((l.find? λx=>decide (fA x=az.mk u v)).map (·.Count)).getD 0):=by
  intro l;induction l with
  |nil=>intro j;rfl
  |cons x r ih=>
   intro j;rw[bJ,List.find?_cons];have e:(decide (x.aD=u)&&decide (x.To=v))=decide (fA x=az.mk u v):=by
    rw[Bool.eq_iff_iff];simp[fA]
   rw[e];cases hd:decide (fA x=az.mk u v)with
   |true=>rfl
   |false=>simp only[cond_false];exact ih (j+1)
 unfold jl;refine(key l 0).trans ?_;cases hf:l.find? λx=>decide (fA x=az.mk u v)with
 |some x=>
  have h1:=List.find?_some hf;simp only[decide_eq_true_eq]at h1;have:=((h.mem x).1 (List.mem_of_find?_eq_some hf)).2;rw[h1]at this;simp[this]
 |none=>
  simp only[Option.map_none,Option.getD_none];congr 1;symm;refine h.zero _ λhk=>?_;have:=List.find?_eq_none.1 hf (aR.mk u v (f (az.mk u v))) ((h.mem _).2 ⟨hk,rfl⟩);simp[fA]at this
theorem LF.put{p mid r:List aR}{c:Int}(hl:LF K f (p++mid++r))(hp:∀y∈p,jQ (fA y) h)(hr:∀y∈r,jQ h (fA y))(hm:∀y∈mid,fA y=h):
  LF (λk=>K k∨k=h) (λk=>if k=h then c else f k) (p++aR.mk h.aD h.To c::r):=by
 have hnew:fA (aR.mk h.aD h.To c)=h:=rfl
 have hne:∀y,(y∈p∨y∈r)→fA y≠h:=λy hy e=>by
  rcases hy with hy|hy
  ·have:=hp y hy;rw[e]at this;exact qY this
  ·have:=hr y hy;rw[e]at this;exact qY this
 refine⟨?_,λx=>?_,λk hk=>?_⟩
 ·have ha:=hl.asc;rw[List.append_assoc,List.pairwise_append]at ha;obtain⟨a1,a2,a3⟩:=ha;rw[List.pairwise_append]at a2;rw[List.pairwise_append,List.pairwise_cons];refine⟨a1,⟨λy hy=>hr y hy,a2.2.1⟩,λx hx y hy=>?_⟩;rcases List.mem_cons.1 hy with rfl|hy
  ·exact hp x hx
  ·exact a3 x hx y (List.mem_append_right _ hy)
 ·rw[List.mem_append,List.mem_cons];by_cases he:fA x=h
  ·simp only[he,or_true,if_true,true_and];constructor
   ·rintro(hx|hx|hx)
    ·exact absurd he (hne x (.inl hx))
    ·rw[hx]
    ·exact absurd he (hne x (.inr hx))
   ·intro hc;exact .inr (.inl (ai6 (by rw[he];rfl) hc))
  ·simp only[he,or_false,if_false];rw[←hl.mem,List.mem_append,List.mem_append];constructor
   ·rintro(hx|rfl|hx)
    ·exact .inl (.inl hx)
    ·exact absurd hnew he
    ·exact .inr hx
   ·rintro((hx|hx)|hx)
    ·exact .inl hx
    ·exact absurd (hm x hx) he
    ·exact .inr (.inr hx)
 ·have hk1:k≠h:=λe=>hk (.inr e);simp only[if_neg hk1];exact hl.zero k λhh=>hk (.inl hh)
theorem abc(h:LF K f l)(hl:l.length≤100000)(u v n:Int)(hb : -1000000≤f (az.mk u v)+n∧f (az.mk u v)+n≤1000000):
  Ok (kZ l u v n) λm=>LF (λk=>K k∨k=az.mk u v) (λk=>if k=az.mk u v then f (az.mk u v)+n else f k) m∧m.length≤l.length+1:=by
 unfold kZ;refine Ok.whl (λk:Int=>∃i:Nat,k=i∧i≤l.length∧∀x∈l.take i,jQ (fA x) (az.mk u v)) (λk=>l.length-k.toNat) ⟨0,rfl,by omega,by simp⟩ (by omega) ?_;rintro k Z ⟨i,rfl,hi,hlt⟩ hZ;have hone:az.mk u v=az.mk u v:=rfl
 have fin:∀(mid r:List aR),l=l.take i++mid++r→(∀y∈r,jQ (az.mk u v) (fA y))→(∀y∈mid,fA y=az.mk u v)→LF (λk=>K k∨k=az.mk u v) (λk=>if k=az.mk u v then f (az.mk u v)+n else f k) (l.take i++aR.mk u v (f (az.mk u v)+n)::r):=λmid r e hr hm=>
  LF.put (h:=az.mk u v) (mid:=mid) (by rw[←e];exact h) hlt hr hm
 have tail:∀x r,l=l.take i++x::r→r.Pairwise (λa b=>jQ (fA a) (fA b))∧∀y∈r,jQ (fA x) (fA y):=λx r e=>by
  have:=h.asc;rw[e,List.pairwise_append,List.pairwise_cons]at this;exact⟨this.2.1.2,this.2.1.1⟩
 have ins:∀r,l=l.take i++r→(∀y∈r,jQ (az.mk u v) (fA y))→Ok (bnd (lH l (0:Int) (i:Int)) λ(l_3:List aR)=>bnd (lH l (i:Int) (l.length:Int)) λ(l_4:List aR)=>bnd (gn l_3 ([(aR.mk u v n)]:List aR)) λ(l_5:List aR)=>bnd (gn l_5 l_4) λ(l_6:List aR)=>some l_6) λm=>LF (λk=>K k∨k=az.mk u v) (λk=>if k=az.mk u v then f (az.mk u v)+n else f k) m∧m.length≤l.length+1:=λr e hr=>by
  obtain⟨m1,g1,rfl,_⟩:=uz (l:=l) (a:=0) (b:=(i:Int)) (by omega);obtain⟨m2,g2,rfl,_⟩:=uz (l:=l) (a:=(i:Int)) (b:=(l.length:Int)) (by omega);rw[g1,aI,g2,aI];simp only[Int.toNat_natCast,List.take_length,Int.toNat_zero,List.drop_zero];have hd:l.drop i=r:=by
   have:=congrArg (List.drop i) e;rw[List.drop_append_of_le_length (by simp;omega),List.drop_take]at this;simpa using this
  have hlen:=congrArg List.length e;simp at hlen;rw[jv (by simp;omega),aI,hd,jv (by simp;omega),aI];refine⟨_,rfl,?_,by simp;omega⟩
  have hz:f (az.mk u v)=0:=h.zero _ λhk=>by
   have hin:=(h.mem (aR.mk u v (f (az.mk u v)))).2 ⟨hk,rfl⟩;rw[e]at hin;rcases List.mem_append.1 hin with hin|hin
   ·exact qY (hlt _ hin)
   ·exact qY (hr _ hin)
  have:=fin [] r (by simpa using e) hr (λy hy=>by cases hy);rw[hz,Int.zero_add]at this;rw[List.append_assoc];simpa [hz]using this
 by_cases hlen:i<l.length
 ·have hel:elO l (i:Int)=some l[i]:=bu (List.getElem?_eq_getElem hlen);have hsp:l=l.take i++l[i]::l.drop (i+1):=by simp
  obtain⟨t1,t2⟩:=tail _ _ hsp;have hi1:w64 ((i:Int)+1)=((i+1:Nat):Int):=by rw[cH (by omega) (by omega)];rfl
  rw[decide_eq_true (by omega)];simp only[jn,cond_true,hel,aI,jv (l:=([]:List aR)) (r:=l) (by simp;omega),List.nil_append];by_cases hc:jQ (fA l[i]) (az.mk u v)
  ·have hgo:Ok (Z (w64 ((i:Int)+1))) λm=>LF (λk=>K k∨k=az.mk u v) (λk=>if k=az.mk u v then f (az.mk u v)+n else f k) m∧m.length≤l.length+1:=hZ _ ⟨i+1,hi1,by omega,λx hx=>by
     rw[List.take_add_one,List.getElem?_eq_getElem hlen]at hx;rcases List.mem_append.1 hx with hx|hx
     ·exact hlt x hx
     ·simp at hx;subst hx;exact hc⟩ (by rw[hi1];omega)
   rcases hc with hc|⟨hc1,hc2⟩
   ·rw[decide_eq_true (show l[i].aD<u from hc)];exact hgo
   ·have hc1:l[i].aD=u:=hc1;have hc2:l[i].To<v:=hc2;rw[decide_eq_false (show ¬l[i].aD<u by omega),decide_eq_true hc1,decide_eq_true hc2];exact hgo
  ·have hend:∀A:Option (List aR),(Ok A λm=>LF (λk=>K k∨k=az.mk u v) (λk=>if k=az.mk u v then f (az.mk u v)+n else f k) m∧m.length≤l.length+1)→∀B,Ok (bif decide (l[i].aD<u)then B else(bif decide (l[i].aD=u)then(bif decide (l[i].To<v)then B else A)else A)) λm=>LF (λk=>K k∨k=az.mk u v) (λk=>if k=az.mk u v then f (az.mk u v)+n else f k) m∧m.length≤l.length+1:=λA hA B=>by
    have hc:¬(l[i].aD<u∨(l[i].aD=u∧l[i].To<v)):=hc;rw[decide_eq_false (show ¬l[i].aD<u by omega),cond_false];by_cases h1:l[i].aD=u
    ·rw[decide_eq_true h1,decide_eq_false (show ¬l[i].To<v by omega)];exact hA
    ·rw[decide_eq_false h1];exact hA
   refine hend _ ?_ _;by_cases he:fA l[i]=az.mk u v
   ·have h1:l[i].aD=u:=by have:=congrArg az.aD he;exact this
    have h2:l[i].To=v:=by have:=congrArg az.To he;exact this
    have hcnt:l[i].Count=f (az.mk u v):=by
     have:=((h.mem l[i]).1 (List.getElem_mem hlen)).2
     rwa [he]at this
    rw[decide_eq_true h1,decide_eq_true h2];simp only[cond_true,hcnt,cH (n:=f (az.mk u v)+n) (by omega) (by omega),h1,h2];obtain⟨m,g1,g2,g3⟩:=xu (l:=l) (i:=(i:Int)) (x:=aR.mk u v (f (az.mk u v)+n)) (by omega) (by omega);rw[g1,aI];refine⟨_,rfl,?_,by omega⟩;have:=fin [l[i]] (l.drop (i+1)) (by simp) (λy hy=>by have:=t2 y hy;rwa [he]at this) (λy hy=>by rw[List.mem_singleton]at hy;rw[hy,he]);rw[g2,Int.toNat_natCast,List.set_eq_take_append_cons_drop,if_pos hlen];exact this
   ·have hA:=ins (l[i]::l.drop (i+1)) hsp (λy hy=>by
     have h0:=ai5 hc he;rcases List.mem_cons.1 hy with rfl|hy
     ·exact h0
     ·exact adV h0 (t2 y hy))
    by_cases h1:l[i].aD=u
    ·have h2:¬l[i].To=v:=λh2=>he (by cases hq:l[i];rw[hq]at h1 h2;simp only at h1 h2;simp[fA,h1,h2]);rw[decide_eq_true h1,decide_eq_false h2];exact hA
    ·rw[decide_eq_false h1];exact hA
 ·obtain rfl:i=l.length:=by omega
  rw[decide_eq_false (by omega)];simp only[jn,cond_false,jv (l:=([]:List aR)) (r:=l) (by simp;omega),List.nil_append,aI];exact ins [] (by simp) (λy hy=>by cases hy)
end
section
def AK(g:ai)(h:az):Prop:=∃a∈fC g,a.Hop=h
def KY(m:RM)(h:az):Prop:=h∈m.map (·.1)
variable {m:RM}
theorem abO{h:az}(hn:¬KY m h):cC m h=0:=by unfold cC;rw[abb.2 hn];rfl
theorem abP(m:RM)(n h:az)(v:Int):cC (er bA m n v) h=if h=n then v else cC m h:=by
 unfold cC;rw[uD];split<;>rfl
variable {l:List aR}
theorem LF.len{g:ai}{K:az→Prop}{f:az→Int}(h:LF K f l)(hK:∀x,K x→AK g x):l.length≤2*g.Links.length:=by
 have hnd:(l.map fA).Nodup:=by
  show List.Pairwise _ _;rw[List.pairwise_map];exact h.asc.imp λ{a b} hlt (e:fA a=fA b)=>qY (e▸hlt)
 have:=p8 (b:=(fC g).map (·.Hop)) hnd λx hx=>by
  obtain⟨y,hy,rfl⟩:=List.mem_map.1 hx;obtain⟨a,ha,he⟩:=hK _ ((h.mem y).1 hy).1;exact List.mem_map.2 ⟨a,ha,he⟩
 simpa [oM]using this
theorem apZ{g:ai}(hv:Vt g){pre r:List bk}{x:bk}(hL:g.Links=pre++x::r)(hW:WhI pre m):¬KY m (az.mk x.A x.B)∧¬KY m (az.mk x.B x.A):=by
 have hx:x∈g.Links:=by rw[hL];simp
 have hlt:=hv.lt x hx;have hpw:=hv.ada;rw[hL,List.pairwise_append]at hpw
 have hno:∀l∈pre,¬(x.A=l.A∧x.B=l.B)∧¬(x.A=l.B∧x.B=l.A):=λl hl=>by
  have h1:=hpw.2.2 l hl x (by simp);have h2:=hv.lt l (by rw[hL];simp[hl]);simp only[ltL,Bool.or_eq_true,Bool.and_eq_true,decide_eq_true_eq]at h1;omega
 have key:∀h,KY m h→∃l∈pre,h=az.mk l.A l.B∨h=az.mk l.B l.A:=λh hk=>by
  obtain⟨p,hp,rfl⟩:=List.mem_map.1 hk;obtain⟨l,h1,h2,_⟩:=hW.get p.1 p.2 (ab7 hW.nd hp);exact⟨l,h1,h2⟩
 constructor
 ·intro hk;obtain⟨l,hl,h|h⟩:=key _ hk
  ·injection h with h1 h2;exact(hno l hl).1 ⟨h1,h2⟩
  ·injection h with h1 h2;exact(hno l hl).2 ⟨h1,h2⟩
 ·intro hk;obtain⟨l,hl,h|h⟩:=key _ hk
  ·injection h with h1 h2;exact(hno l hl).2 ⟨h2,h1⟩
  ·injection h with h1 h2;exact(hno l hl).1 ⟨h2,h1⟩
abbrev RL(g:ai)(r:RM)(l:List aR):Prop:=LF (AK g) (cC r) l
theorem ai7{g:ai}(hv:Vt g):Ok (nD g) (RL g (nI g)):=by
 have hnl:=hv.nl;unfold nD;refine Ok.nX (λpre (l:List aR)=>LF (KY (pre.foldl whS [])) (cC (pre.foldl whS [])) l) ?_ _ ⟨List.Pairwise.nil,λx=>by simp[KY],λh _=>rfl⟩ ?_
 ·rintro pre x r l Z hL h hZ;have hx:x∈g.Links:=by rw[hL];simp
  have hW:WhI pre (pre.foldl whS []):=by
   have:=adu pre [] [] ⟨by simp,λh v hk=>by simp[bZ]at hk,λl hl=>by cases hl⟩;simpa using this
  obtain⟨o1,o2⟩:=apZ hv hL hW;have hlt:=hv.lt x hx;have hcap:=hv.okl x hx;simp only[oJ,Bool.or_eq_false_iff,decide_eq_false_iff_not]at hcap
  have hKA:∀y,KY (pre.foldl whS []) y→AK g y:=λy hy=>by
   obtain⟨p,hp,rfl⟩:=List.mem_map.1 hy;obtain⟨l,h1,h2,_⟩:=hW.get p.1 p.2 (ab7 hW.nd hp);have hl:l∈g.Links:=by rw[hL];simp[h1]
   rcases h2 with h2|h2
   ·exact⟨_,mA.2 ⟨l,hl,.inl rfl⟩,h2.symm⟩
   ·exact⟨_,mA.2 ⟨l,hl,.inr rfl⟩,h2.symm⟩
  have hlen:=h.len hKA;have z1:=abO o1;have z2:=abO o2;obtain⟨l1,g1,g2,g3⟩:=abc h (by omega) x.A x.B x.dZ (by rw[z1];omega);have hne:az.mk x.B x.A≠az.mk x.A x.B:=λe=>by injection e with e1 e2;omega
  obtain⟨l2,g4,g5,_⟩:=abc g2 (by omega) x.B x.A x.dZ (by rw[if_neg hne,z2];omega);rw[g1,aI,g4,aI];refine hZ _ (g5.congr (λk=>?_) λk=>?_)
  ·unfold KY;rw[List.foldl_append,List.foldl_cons,List.foldl_nil,whS,sY,sY];constructor
   ·rintro((h|h)|h)
    ·exact .inr (.inr h)
    ·exact .inr (.inl h)
    ·exact .inl h
   ·rintro(h|h|h)
    ·exact .inr h
    ·exact .inl (.inr h)
    ·exact .inl (.inl h)
  ·rw[List.foldl_append,List.foldl_cons,List.foldl_nil,whS,abP,abP,if_neg hne,z1,z2];by_cases h1:k=az.mk x.B x.A
   ·rw[if_pos h1,if_pos h1];omega
   ·rw[if_neg h1,if_neg h1];by_cases h2:k=az.mk x.A x.B
    ·rw[if_pos h2,if_pos h2];omega
    ·rw[if_neg h2,if_neg h2]
 ·intro l h;exact Ok.s (h.congr (λk=>(adv hv).key k) λ_=>rfl)
theorem ady(x:aT):lW x=some (decide (x.bw=0)&&decide (x.Links.length=0)):=by
 unfold lW;rw[show decide ((x.Links.length:Int)=0)=decide (x.Links.length=0)by rw[Bool.eq_iff_iff];simp]
variable {d:aN}{r:RM}
theorem ai8{g:ai}(hv:Vt g)(hr:gJ g r)(hl:RL g r l)(hd:DOk g d){hs:List az}{c:Int}(hb:mW (dB g r d.bM) d.bw d.aV hs c):
  Ok (nE g l (aT.mk d.bw hs) d.bM) λp=>p.2=true∧LF (AK g) (λh=>cC r h-if h∈hs then d.bM else 0) p.1:=by
 have hnl:=hv.nl;have hnz:=(qy hv hd.root).1;have hlen:=sV (nT hv r d.bM) hb;have hrate:=hd.fu;obtain⟨hnd,hin⟩:=xG (nT hv r d.bM) hb;unfold nE
 rw[ady,aI,decide_eq_false (by simp only;omega),Bool.false_and,cond_false,p9 _ _ _ (by show hs.length≤_;omega) (by simp),aI,
  sv hv (λa ha=>(jN.1 ha).1) hd.root hb List.Pairwise.nil (λx hx=>by cases hx) (λx hx=>by cases hx),decide_eq_true rfl,Bool.not_true,cond_false]
 refine Ok.nX (λpre (l:List aR)=>LF (AK g) (λh=>cC r h-if h∈pre then d.bM else 0) l) ?_ _ (hl.congr (λ_=>Iff.rfl) λh=>by simp) λl h=>Ok.s ⟨rfl,h⟩;rintro pre x rest l Z hL h hZ;have hL:hs=pre++x::rest:=hL;have hx:x∈hs:=by rw[hL];simp
 have hxp:x∉pre:=λh=>by
  rw[hL,List.nodup_append]at hnd;exact hnd.2.2 x h x (by simp) rfl
 obtain⟨a,ha,rfl⟩:=hin x hx;obtain⟨ha,hle⟩:=jN.1 ha;have hrg:=hr.rg a.Hop;have hat:=aal h a.Hop.aD a.Hop.To;have e:az.mk a.Hop.aD a.Hop.To=a.Hop:=rfl;simp only[e,if_neg hxp]at hat;rw[hat,aI,decide_eq_false (by omega),cond_false,cH (n:=0-d.bM) (by omega) (by omega)];obtain⟨l2,g1,g2,_⟩:=abc h (by have:=h.len (g:=g) (λ_ h=>h);omega) a.Hop.aD a.Hop.To (0-d.bM) (by simp only[e,if_neg hxp];omega);rw[g1,aI];refine hZ _ (g2.congr (λk=>⟨λhk=>hk.elim id λe=>⟨a,ha,e.symm⟩,.inl⟩) λk=>?_);simp only[e,if_neg hxp];by_cases he:k=a.Hop
 ·subst he;rw[if_pos rfl,if_pos (by simp)];omega
 ·rw[if_neg he];by_cases hp:k∈pre
  ·rw[if_pos hp,if_pos (by simp[hp])]
  ·rw[if_neg hp,if_neg (by simp[hp,he])]
theorem amc(a b:List ah)(v:List Int):rnd (a++b) v=rnd b (rnd a v):=by unfold rnd;rw[List.foldl_append]
theorem adz(v:List Int)(hv:v.length≤90000)(a:ah)(c:Bool){β:Type}(J:List Int→Option β):
  (jn (λ(v_1:Bool)=>bif v_1 then bnd (ee v a.Hop.To) λ(bx:(List Int))=>J bx else J v) λJ3=>bnd (dF v a.Hop.aD) λ(aq:Bool)=>(bif aq then J3 c else J3 false))=J (bif c then oN v a else v):=by
 simp only[jn,adh,aI];unfold oN;by_cases h:a.Hop.aD∈v
 ·rw[decide_eq_true h,if_pos h];cases c
  ·rfl
  ·simp only[cond_true];rw[afw v a.Hop.To (by omega),aI]
 ·rw[decide_eq_false h,if_neg h];cases c<;>rfl
theorem adW{g:ai}(hv:Vt g)(hl:RL g r l)(d:aN):kN g l d=some (rounds (dB g r d.bM) g.aC.length [d.bw]):=by
 have hnl:=hv.nl;have hnr:=hv.nr;have hol:(dB g r d.bM).length≤120:=by
  have:=List.length_filter_le (λa:ah=>decide (d.bM≤cC r a.Hop)) (fC g);rw[oM]at this;unfold dB;omega
 unfold kN;refine Ok.eq (Ok.nX (λpre (v:List Int)=>v=rounds (dB g r d.bM) pre.length [d.bw]∧v.length≤1+120*pre.length) ?_ _ ⟨rfl,by simp⟩ λv h=>Ok.s h.1);rintro pre x rest v Z hL ⟨hv1,hv2⟩ hZ;have hpl:=congrArg List.length hL;simp at hpl;refine Ok.nX (λq (w:List Int)=>w=rnd ((q.flatMap gC).filter λa=>decide (d.bM≤cC r a.Hop)) v) ?_ _ rfl ?_
 ·rintro q y t w Y hq rfl hY;have hwl:=aa6 ((q.flatMap gC).filter λa=>decide (d.bM≤cC r a.Hop)) v
  have hql:((q.flatMap gC).filter λa=>decide (d.bM≤cC r a.Hop)).length≤120:=by
   have h1:=List.length_filter_le (λa:ah=>decide (d.bM≤cC r a.Hop)) (q.flatMap gC);have h2:(q.flatMap gC).length=2*q.length:=by
    clear h1 hwl hY hq;induction q with
    |nil=>rfl
    |cons a q ih=>rw[List.flatMap_cons,List.length_append,ih];simp[gC];omega
   have h3:=congrArg List.length hq;simp at h3;omega
  have e1:=aal hl y.A y.B;have e2:=aal hl y.B y.A;generalize hw:rnd ((q.flatMap gC).filter λa=>decide (d.bM≤cC r a.Hop)) v=w at hwl ⊢;simp only[e1,e2,aI];have s1:=adz (β:=List Int) w (by omega) (ah.mk (az.mk y.A y.B) y.eZ) (decide (d.bM≤cC r (az.mk y.A y.B)))
  have afl:∀w2:List Int,w2.length≤90000→(w2=bif decide (d.bM≤cC r (az.mk y.A y.B))then oN w (ah.mk (az.mk y.A y.B) y.eZ)else w)→Ok (jn (λ(v_2:Bool)=>bif v_2 then bnd (ee w2 y.A) λ(cQ:(List Int))=>Y cQ else Y w2) λJ4=>bnd (dF w2 y.B) λ(bV:Bool)=>(bif bV then J4 (decide (d.bM≤cC r (az.mk y.B y.A)))else J4 false)) λx=>x=rounds (dB g r d.bM) g.aC.length [d.bw]:=λw2 hw2 he=>by
   rw[adz w2 hw2 (ah.mk (az.mk y.B y.A) y.gj)];refine hY _ ?_;rw[List.flatMap_append,List.flatMap_singleton,List.filter_append,amc,hw,he];simp only[gC,List.filter_cons,List.filter_nil];cases decide (d.bM≤cC r (az.mk y.A y.B))<;>cases decide (d.bM≤cC r (az.mk y.B y.A))<;>rfl
  show Ok (jn (λ(qB:List Int)=>_) λJ2=>_) _;unfold jn;have hb:=adp w (ah.mk (az.mk y.A y.B) y.eZ);have s2:=s1 (λw2=>jn (λ(v_2:Bool)=>bif v_2 then bnd (ee w2 y.A) λ(cQ:(List Int))=>Y cQ else Y w2) λJ4=>bnd (dF w2 y.B) λ(bV:Bool)=>(bif bV then J4 (decide (d.bM≤cC r (az.mk y.B y.A)))else J4 false));refine(congrArg (λo=>Ok o λx=>x=rounds (dB g r d.bM) g.aC.length [d.bw]) s2).mpr (afl _ ?_ rfl);cases decide (d.bM≤cC r (az.mk y.A y.B))
  ·simp only[cond_false];omega
  ·simp only[cond_true];omega
 ·rintro w rfl;have hrl:=aa6 (dB g r d.bM) v;refine hZ _ ⟨?_,?_⟩
  ·rw[List.length_append,List.length_singleton];have asN:∀(n:Nat) (u:List Int),rounds (dB g r d.bM) (n+1) u=rnd (dB g r d.bM) (rounds (dB g r d.bM) n u):=by
    intro n;induction n with
    |zero=>intro u;rfl
    |succ n ih=>intro u;exact ih (rnd (dB g r d.bM) u)
   rw[asN,←hv1];rfl
  ·rw[List.length_append,List.length_singleton];have:rnd ((g.Links.flatMap gC).filter λa=>decide (d.bM≤cC r a.Hop)) v=rnd (dB g r d.bM) v:=rfl;rw[this];omega
theorem adA{g:ai}(hv:Vt g)(hl:RL g r l)(hd:DOk g d):∃b,jM g l d=some b∧(b=true↔∀x,x∈d.aV→Con bz (dB g r d.bM) d.bw x):=by
 have hit:∀x,x∈rounds (dB g r d.bM) g.aC.length [d.bw]↔Con bz (dB g r d.bM) d.bw x:=λx=>
  afy (V:=ids g) hd.root (λa ha=>(uC hv (jN.1 ha).1).2) (by simp[ids])
 refine⟨d.aV.all λx=>decide (x∈rounds (dB g r d.bM) g.aC.length [d.bw]),?_,?_⟩
 ·unfold jM;rw[adW hv hl,aI];refine(fh (λx=>!decide (x∈rounds (dB g r d.bM) g.aC.length [d.bw])) (some false) (λj x Z s=>by rw[adh,aI]) _ _ _).trans ?_
  have e:(d.aV.any λx=>!decide (x∈rounds (dB g r d.bM) g.aC.length [d.bw]))=!(d.aV.all λx=>decide (x∈rounds (dB g r d.bM) g.aC.length [d.bw])):=by
   rw[List.any_eq_not_all_not];simp
  rw[e];cases d.aV.all λx=>decide (x∈rounds (dB g r d.bM) g.aC.length [d.bw])<;>rfl
 ·rw[List.all_eq_true];simp only[decide_eq_true_eq,hit]
end
section
def zr(g:ai)(m:List (List Int))(x y:Int):List (List Int):=m.set ((ids g).idxOf x) ((m.getD ((ids g).idxOf x) []).set ((ids g).idxOf y) 0)
def adB(g:ai)(r:RM)(n:Int)(S:List ah)(u v:Nat):Prop:=∃a∈S,¬n≤cC r a.Hop∧(ids g).idxOf a.Hop.aD=u∧(ids g).idxOf a.Hop.To=v
structure ZI(g:ai)(r:RM)(n:Int)(m0:List (List Int))(S:List ah)(m:List (List Int)):Prop where
 len:m.length=(ids g).length
 row:∀u,u<(ids g).length→(m.getD u []).length=(ids g).length
 shut:∀u v,u<(ids g).length→v<(ids g).length→adB g r n S u v→ent m u v=0
 same:∀u v,u<(ids g).length→v<(ids g).length→¬adB g r n S u v→ent m u v=ent m0 u v
variable {m:List (List Int)}{r:RM}
theorem ZI.step{g:ai}{n:Int}{m0:List (List Int)}{S:List ah}(h:ZI g r n m0 S m){a:ah}(h1:a.Hop.aD∈ids g)(h2:a.Hop.To∈ids g):
  ZI g r n m0 (S++[a]) (if cC r a.Hop<n then zr g m a.Hop.aD a.Hop.To else m):=by
 have i1:=List.idxOf_lt_length_of_mem h1;have i2:=List.idxOf_lt_length_of_mem h2
 have hor:∀u v,adB g r n (S++[a]) u v↔adB g r n S u v∨(cC r a.Hop<n∧(ids g).idxOf a.Hop.aD=u∧(ids g).idxOf a.Hop.To=v):=λu v=>by
  constructor
  ·rintro⟨b,hb,q⟩;rcases List.mem_append.1 hb with hb|hb
   ·exact .inl ⟨b,hb,q⟩
   ·rw[List.mem_singleton]at hb;subst hb
    exact .inr ⟨by omega,q.2⟩
  ·rintro(⟨b,hb,q⟩|⟨q1,q2⟩)
   ·exact⟨b,by simp[hb],q⟩
   ·exact⟨a,by simp,by omega,q2⟩
 by_cases hc:cC r a.Hop<n
 ·rw[if_pos hc];have he:=aba (c:=0) h.len h.row i1 i2;refine⟨by unfold zr;rw[List.length_set];exact h.len,zl h.len h.row i1,λu v hu hv' hs=>?_,λu v hu hv' hs=>?_⟩
  ·show ent (m.set _ _) u v=0;rw[he];by_cases hq:u=(ids g).idxOf a.Hop.aD∧v=(ids g).idxOf a.Hop.To
   ·rw[if_pos hq]
   ·rw[if_neg hq];rcases(hor u v).1 hs with h3|⟨_,h3,h4⟩
    ·exact h.shut u v hu hv' h3
    ·exact absurd ⟨h3.symm,h4.symm⟩ hq
  ·show ent (m.set _ _) u v=_;rw[he];have hn:¬(u=(ids g).idxOf a.Hop.aD∧v=(ids g).idxOf a.Hop.To):=λhq=>hs ((hor u v).2 (.inr ⟨hc,hq.1.symm,hq.2.symm⟩));rw[if_neg hn];exact h.same u v hu hv' λh3=>hs ((hor u v).2 (.inl h3))
 ·rw[if_neg hc];refine⟨h.len,h.row,λu v hu hv' hs=>?_,λu v hu hv' hs=>h.same u v hu hv' λh3=>hs ((hor u v).2 (.inl h3))⟩;rcases(hor u v).1 hs with h3|h3
  ·exact h.shut u v hu hv' h3
  ·exact absurd h3.1 hc
variable {β:Type}
theorem ag5{g:ai}{ix:List Int}(hat:∀x∈ids g,elO ix x=some ((ids g).idxOf x:Int))(hl:m.length=(ids g).length)(hr:∀u,u<(ids g).length→(m.getD u []).length=(ids g).length){x y:Int}(hx:x∈ids g)(hy:y∈ids g)(c n:Int)(J:List (List Int)→Option β):
  (bif decide (c<n)then bnd (elO ix x) λ(e_1:Int)=>bnd (elO m e_1) λ(e_2:List Int)=>bnd (elO ix y) λ(e_3:Int)=>bnd (elO e_2 e_3) λ(e_4:Int)=>bnd (nu e_2 e_3 (0:Int)) λ(l_1:List Int)=>J (List.set m e_1.toNat l_1)else J m)=J (if c<n then zr g m x y else m):=by
 have i1:=List.idxOf_lt_length_of_mem hx;have i2:=List.idxOf_lt_length_of_mem hy;by_cases hc:c<n
 ·rw[decide_eq_true hc,if_pos hc,cond_true,hat x hx,aI,elD [] (by omega),aI,hat y hy,aI,elD 0 (by rw[hr _ i1];exact i2),aI];obtain⟨w,g1,g2,_⟩:=xu (l:=m.getD ((ids g).idxOf x) []) (i:=((ids g).idxOf y:Int)) (x:=0) (by omega) (by rw[hr _ i1];omega);rw[g1,aI,g2,Int.toNat_natCast,Int.toNat_natCast];rfl
 ·rw[decide_eq_false hc,if_neg hc,cond_false]
variable {c:Int}{d:aN}{hs:List az}
theorem ag6{g:ai}(hv:Vt g){l:List aR}(hl:RL g r l)(hd:DOk g d)(hb:mW (dB g r d.bM) d.bw d.aV hs c):mM g l d=some c:=by
 have hn:0<g.aC.length:=by
  have:=List.length_pos_of_mem hd.root;simpa [ids]using this
 obtain⟨w,hw,hcm,hat⟩:=agU hv hn;unfold mM;rw[hw,aI];refine Ok.eq (Ok.nX (λpre (m:List (List Int))=>ZI g r d.bM w.1 (pre.flatMap gC) m) ?_ _ ⟨hcm.len,hcm.row,λu v _ _ ⟨a,ha,_⟩=>by simp at ha,λu v _ _ _=>rfl⟩ ?_)
 ·rintro pre x rest m Z hL hI hZ;have hx:x∈g.Links:=by rw[hL];simp
  have aah:=hv.ends x hx;have hAm:=iI.2 aah.1;have hBm:=iI.2 aah.2;have s1:=hI.step (a:=ah.mk (az.mk x.A x.B) x.eZ) hAm hBm;have s2:=s1.step (a:=ah.mk (az.mk x.B x.A) x.gj) hBm hAm;have e1:=ag5 hat hI.len hI.row hAm hBm (cC r (az.mk x.A x.B)) d.bM (β:=Int);have e2:∀J:List (List Int)→Option Int,_:=λJ=>ag5 hat s1.len s1.row hBm hAm (cC r (az.mk x.B x.A)) d.bM J;simp only[jn,aal hl,aI];refine(congrArg (λo=>Ok o λx=>x=c) (e1 λm_3=>bif decide (cC r (az.mk x.B x.A)<d.bM)then bnd (elO w.2.l x.B) λ(e_5:Int)=>bnd (elO m_3 e_5) λ(e_6:List Int)=>bnd (elO w.2.l x.A) λ(e_7:Int)=>bnd (elO e_6 e_7) λ(e_8:Int)=>bnd (nu e_6 e_7 (0:Int)) λ(l_2:List Int)=>Z (List.set m_3 e_5.toNat l_2)else Z m_3)).mpr ((congrArg (λo=>Ok o λx=>x=c) (e2 _)).mpr (hZ _ ?_));rw[List.flatMap_append,List.flatMap_singleton];have:pre.flatMap gC++gC x=(pre.flatMap gC++[ah.mk (az.mk x.A x.B) x.eZ])++[ah.mk (az.mk x.B x.A) x.gj]:=by simp[gC]
  rw[this];exact s2
 ·intro m hI;have hA:=aa4 hv;have hmat:zj (ids g) (dB g r d.bM) m:=by
   refine⟨hcm.nd,hcm.le,hI.len,hI.row,λa ha=>?_,λu v hu hv' hp=>?_⟩
   ·obtain⟨ha1,ha2⟩:=jN.1 ha;obtain⟨q1,q2,q3,q4⟩:=hcm.arc a ha1;refine⟨q1,q2,?_,q4⟩;rw[hI.same _ _ (List.idxOf_lt_length_of_mem q1) (List.idxOf_lt_length_of_mem q2),q3];rintro⟨b,hb,hn,p1,p2⟩;have ap0:=uC hv (show b∈fC g from hb);have f1:=sW ap0.1 q1 p1;have f2:=sW ap0.2 q2 p2;have:b=a:=hA.hop b hb a ha1 (by cases hb':b.Hop;cases ha':a.Hop;rw[hb',ha']at f1 f2;simp only at f1 f2;rw[f1,f2]);subst this;exact hn ha2
   ·have hns:¬adB g r d.bM (g.Links.flatMap gC) u v:=λh=>by rw[hI.shut u v hu hv' h]at hp;omega
    rw[hI.same u v hu hv' hns]at hp ⊢;have hin:=hcm.hop u v hu hv' hp;refine jN.2 ⟨hin,?_⟩;apply Classical.byContradiction;intro hn;exact hns ⟨_,hin,hn,ads hcm.nd hu,ads hcm.nd hv'⟩
  have hlen:=hd.len;refine Ok.nX (λp (t:List Int)=>t=p.map λx=>((ids g).idxOf x:Int)) ?_ _ rfl ?_
  ·rintro p x q t Z hL rfl hZ;have hxt:x∈d.aV:=by rw[hL];simp
   have hle:=congrArg List.length hL;simp at hle;rw[hat x (hd.recv x hxt),aI,jv (by simp;omega),aI];exact hZ _ (by simp)
  ·rintro t rfl;rw[hat d.bw hd.root,aI];refine Ok.bnd (aiZ hmat hd.recv hlen hd.root) λk hk=>?_;obtain⟨⟨Hs,hO,h3,_⟩,_⟩:=hb;refine⟨k,rfl,?_⟩;rw[←h3];have hOA:=nT hv r d.bM;by_cases h0:d.aV=[]
   ·rw[hk.1 h0];have h3:=hO.min [] (λa ha=>by cases ha) (λt ht=>by rw[h0]at ht;cases ht);have h4:=tT (N:=bz) (H:=Hs) λa ha=>by have:=hO.pos a (hO.sub a ha);omega
    have e:dG bz ([]:List ah)=0:=rfl;omega
   ·have h1:0<d.aV.length:=List.length_pos_iff.2 h0;obtain⟨c1,c2⟩:=hk.2 h1;have h3:=c1 Hs hO.sub hO.cov;have hb1:=hO.min _ (λa ha=>ha) λt ht=>(hO.cov t ht).mono hO.sub;have hb2:=(kJ hOA.cost).2;have hb3:=hOA.len;have hFAR:FAR=1099511627776:=rfl;obtain⟨K,k1,k2,k3⟩:=c2 (by omega);have h4:=hO.min K k1 k2;omega
theorem ag7{ay:List ah}{root:Int}{ts:List Int}{hs':List az}{c':Int}(h:mW ay root ts hs c)(h':mW ay root ts hs' c'):c'=c:=by
 obtain⟨⟨Hs,hO,h3,_⟩,_⟩:=h;obtain⟨⟨Hs',hO',h3',_⟩,_⟩:=h';have h1:=hO.min Hs' hO'.sub hO'.cov;have h2:=hO'.min Hs hO.sub hO.cov;omega
variable {ds:List aN}
theorem adC{g:ai}(hv:Vt g)(hd:∀d∈ds,DOk g d){outs:List aT}{σ:Type}(R:RM→σ→Prop){B:Int→aN→(σ→Option β)→σ→Option β}{b:β}
  (hB:∀(j:Nat) d t r r' s Z,outs[j]?=some t→Step g r d t r'→gJ g r→DOk g d→R r s→(∀s',R r' s'→Z s'=some b)→B (j:Int) d Z s=some b)  (h:Pl g ds outs r) {s0:σ} (h0:R (nI g) s0) {K:σ→Option β} (hK:∀s,R r s→K s=some b):bJ ds 0 B K s0=some b:=by
 have key:∀(es:List aN) (out:List aT) (r:RM),Pl g es out r→es <+: ds→out <+: outs→∀K:σ→Option β,(∀s,R r s→K s=some b)→bJ es 0 B K s0=some b:=by
  intro es out r hp;induction hp with
  |nil=>intro _ _ K hK;exact hK _ h0
  |@snoc es out r r' d t h hs ih=>
   intro h1 h2 K hK;obtain⟨fs,hf⟩:=h1;obtain⟨fo,ho⟩:=h2;rw[xI];refine ih ⟨d::fs,by rw[←hf];simp⟩ ⟨t::fo,by rw[←ho];simp⟩ _ λs hs'=>?_;rw[Nat.zero_add];refine hB es.length d t r r' s K (by rw[←ho,←h.len];simp) hs (h.ok hv λd hd'=>hd d (by rw[←hf];simp[hd'])) (hd d (by rw[←hf];simp)) hs' hK
 exact key ds outs r h (List.prefix_refl _) (List.prefix_refl _) K hK
theorem ai9{g:ai}(hv:Vt g){r':RM}(hr:gJ g r)(hd:DOk g d){t:aT}(hs:Step g r d t r'):kM g r d t=some true:=by
 obtain⟨q,hq,hp⟩:=afC hv r d.bM;have hOA:=nT hv r d.bM;unfold kM;rw[hq,aI];refine Ok.eq (aj6 (aa5 hp hOA) hd.len λx hx=>?_);have hx:=aek hp hx;obtain⟨hs',c',ok⟩:=x;rcases hs with⟨hs,c,rfl,hb,ht⟩|⟨rfl,hn,rfl⟩
 ·have hc:∀t,t∈d.aV→Con bz (dB g r d.bM) d.bw t:=by
   obtain⟨⟨Hs,hO,_,_⟩,_⟩:=hb;exact λt ht=>(hO.cov t ht).mono hO.sub
  rcases hx with⟨e,hb'⟩|⟨_,h⟩
  ·simp only at e hb';subst e;have hcc:=ag7 hb hb';subst hcc;have hlen:=sV hOA hb;have hl6:=hd.len;have hsub:∀a∈dB g r d.bM,a∈fC g:=λa ha=>(jN.1 ha).1;obtain⟨_,hin⟩:=xG hOA hb;simp only[jn,Bool.not_true,cond_false,decide_true];rw[sX _ _ _ (by show hs.length≤_;omega) (by omega),aI,sv hv hsub hd.root hb hd.asc hd.recv (λx hx=>hx),decide_eq_true rfl,Bool.not_true,cond_false];refine Ok.forM (λ_ _=>True) (λj h _ Z _ hh _ hZ=>?_) _ trivial λ_ _=>?_
   ·obtain⟨a,ha,rfl⟩:=hin h hh;have:=(jN.1 ha).2;have e:¬((bZ bA r a.Hop).getD (0:Int))<d.bM:=by show ¬cC r a.Hop<d.bM;omega
    rw[decide_eq_false e];exact hZ _ trivial
   ·rw[al7 _ _ (by show hs.length≤_;omega),aI];have afG:aai g hs=c':=abL hv hOA hsub hb;unfold zm;rw[sv hv hsub hd.root hb (rs:=[]) List.Pairwise.nil (λx hx=>by cases hx) (λx hx=>by cases hx)];simp only[decide_true,Bool.not_true,cond_false,afG,Bool.and_self];exact⟨true,rfl,rfl⟩
  ·exact absurd hc h
 ·rcases hx with⟨_,hb'⟩|⟨e,_⟩
  ·obtain⟨⟨Hs,hO,_,_⟩,_⟩:=hb';exact absurd (λt ht=>(hO.cov t ht).mono hO.sub) hn
  ·injection e with e1 e2
   injection e2 with e2 e3
   subst e1;subst e2;subst e3
   exact⟨true,rfl,rfl⟩
variable {out:List aT}
theorem adD{g:ai}(hv:Vt g)(hd:∀d∈ds,DOk g d)(hl:ds.length≤12)(h:Pl g ds out r):jL g ds out=some 0:=by
 have hlen:=h.len;unfold jL;rw[tF hv hd hl,aI,decide_eq_true rfl,Bool.not_true,cond_false,hlen,decide_eq_true rfl,Bool.not_true,cond_false,xF,aI];refine adC hv hd (λr s=>s=r) (λj d t r r' s Z hj hs hr hdd hR hZ=>?_) h rfl λ_ _=>rfl;subst hR;rw[bu hj,aI,ai9 hv hr hdd hs,aI,Bool.not_true,cond_false];rcases hs with⟨hs,c,rfl,hb,ht⟩|⟨rfl,hn,rfl⟩
 ·rw[ht,aI];exact hZ _ rfl
 ·rw[abN,aI];exact hZ _ rfl
theorem afH{g:ai}(hv:Vt g)(h:DOk g d):lX g d=some 0:=by
 have hl:=h.len;have hr:=h.fu;unfold lX;rw[decide_eq_false (by omega),cond_false,abI d.aV (by omega),aI,show gW (λa b:Int=>decide (a<b)) d.aV=true from zn h.asc,Bool.not_true,cond_false,jv (by simp;omega),aI]
 refine(fh (λr=>!hasB g r) (some 4) (λj x Z s=>by
  rw[aaY g x,aI,decide_eq_true (oo.2 hv),Bool.true_and]) _ _ _).trans ?_
 rw[any_false.2 λx hx=>by
  rcases List.mem_append.1 hx with hx|hx
  ·rw[List.mem_singleton]at hx;subst hx;rw[iI.1 h.root];rfl
  ·rw[iI.1 (h.recv x hx)];rfl]
 simp only[cond_false];rw[decide_eq_false (by omega),decide_eq_false (by omega)];rfl
theorem ag8{g:ai}(hv:Vt g)(h:∀d∈ds,DOk g d)(hl:ds.length≤12):mL g ds=some 0:=by
 unfold mL;rw[tD,aI,decide_eq_true (oo.2 hv),Bool.not_true,cond_false,decide_eq_false (by omega),cond_false];refine Ok.eq (Ok.forM (λ_ _=>True) (λj x s Z hj hx _ hZ=>?_) _ trivial λs _=>⟨0,rfl,rfl⟩);simp only[afH hv (h x hx),aI];exact hZ _ trivial
theorem ag9{g:ai}(hv:Vt g)(hd:∀d∈ds,DOk g d)(hl:ds.length≤12)(h:Pl g ds out r):mN g ds out=some 0:=by
 have hlen:=h.len;obtain⟨l0,hf,hl0⟩:=ai7 hv;unfold mN;rw[ag8 hv hd hl,aI,decide_eq_true rfl,Bool.not_true,cond_false,hlen,decide_eq_true rfl,Bool.not_true,cond_false,hf,aI];refine adC hv hd (λr s=>RL g r s) (λj d t r r' s Z hj hs hr hdd hR hZ=>?_) h hl0 λ_ _=>rfl;obtain⟨b,hb1,hb2⟩:=adA hv hR hdd;simp only[jn,bu hj,aI,hb1,ady];rcases hs with⟨hs,c,rfl,hb,ht⟩|⟨rfl,hn,rfl⟩
 ·have hnz:=(qy hv hdd.root).1;have hc:∀t,t∈d.aV→Con bz (dB g r d.bM) d.bw t:=by
   obtain⟨⟨Hs,hO,_,_⟩,_⟩:=hb;exact λt ht=>(hO.cov t ht).mono hO.sub
  have hOA:=nT hv r d.bM;have hlen:=sV hOA hb;have hl6:=hdd.len;have hsub:∀a∈dB g r d.bM,a∈fC g:=λa ha=>(jN.1 ha).1;have hbt:b=true:=hb2.2 hc;subst hbt;obtain⟨⟨l2,ok⟩,g1,g2,g3⟩:=ai8 hv hr hR hdd hb;simp only at g2 g3;subst g2;have afG:aai g hs=c:=abL hv hOA hsub hb;have hcs:zm g (aT.mk d.bw hs)=(c,0):=by
   unfold zm;rw[sv hv hsub hdd.root hb (rs:=[]) List.Pairwise.nil (λx hx=>by cases hx) (λx hx=>by cases hx)];simp[afG]
  have e0:¬d.bw=0:=by omega
  rw[decide_eq_false e0,g1,aI];simp only[Bool.false_and,Bool.not_true,cond_false,decide_true,beq_iff_eq,Bool.true_eq_false,show(true==false)=false from rfl]
  rw[p9 _ _ _ (by show hs.length≤_;omega) (by omega),aI,sv hv hsub hdd.root hb hdd.asc hdd.recv (λx hx=>hx),decide_eq_true rfl,Bool.not_true,cond_false,
   afA _ _ (by show hs.length≤_;omega),aI,ag6 hv hR hdd hb,aI,hcs,decide_eq_true rfl,Bool.not_true,cond_false]
  refine hZ _ (g3.congr (λ_=>Iff.rfl) λh=>?_);obtain⟨p,q1,_,_,q4⟩:=xH hv hr hdd hb;rw[ht]at q1;cases q1
  exact(q4 h).symm
 ·have hbf:b=false:=by
   cases b with
   |false=>rfl
   |true=>exact absurd (hb2.1 rfl) hn
  subst hbf;simp only[decide_true,List.length_nil,Bool.and_self,show(false==true)=false from rfl,cond_false,Bool.not_false,cond_true];exact hZ _ hR
end
end Go.Proofs.YtmnbolcmepihlaaGreat
