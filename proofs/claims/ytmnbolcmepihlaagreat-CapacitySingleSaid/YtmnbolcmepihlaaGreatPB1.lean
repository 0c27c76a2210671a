/- Several texts in one. No condition but those that stand in each. -/
import Derived.Test.YtmnbolcmepihlaaGreatPA1
import Derived.Test.YtmnbolcmepihlaaGreatWE
import Derived.Test.YtmnbolcmepihlaaGreatPN
import Derived.Test.YtmnbolcmepihlaaGreatDLC
namespace Go.Proofs.YtmnbolcmepihlaaGreat
set_option linter.all false
open Go
section
theorem apL(l:List Int)(hl:l.length≤1000000):iw l=some (gy (λa b=>decide (a<b)) l):=by
 unfold iw
 refine(nv (λa b:Int=>decide (a<b)) (some false) (λj x y r q s Z hL hj=>by
  simp only[mj hL hj (by omega),aM];by_cases h:y<x
  ·have:¬x≤y:=by omega
   simp[h,this]
  ·have:x≤y:=by omega
   simp[h,this]) _).trans ?_
 cases gy (λa b:Int=>decide (a<b)) l<;>rfl
def afi(t:af)(root:Int)(rs:List Int):Int:=bif !decide (iL t=0)then 1 else bif !gy (λa b:Int=>decide (a<b)) rs then 25 else bif (root::rs).any (λr=>!hasB t r)then 4 else 0
theorem apM{t:af}(hv:Vt t){root:Int}(hr:root∈ids t){rs:List Int}(h1:rs.Pairwise (·<·))(h2:∀x∈rs,x∈ids t):afi t root rs=0:=by
 unfold afi;have h3:gy (λa b:Int=>decide (a<b)) rs=true:=jO (h1.imp λh=>by simpa using h)
 have h4:(root::rs).any (λr=>!hasB t r)=false:=any_false.2 λx hx=>by
  rcases List.mem_cons.1 hx with rfl|hx
  ·rw[iM.1 hr];rfl
  ·rw[iM.1 (h2 x hx)];rfl
 rw[h3,h4,decide_eq_true (nw.2 hv)];rfl
def nS(l:aU):List ai:=[ai.mk (aC.mk l.A l.B) l.ec,ai.mk (aC.mk l.B l.A) l.eB]
def dS(g:af):List ai:=g.Links.flatMap nS
theorem adi{α γ β:Type}{B:Int→α→(List γ→Option β)→List γ→Option β}{K:List γ→Option β}(f:α→List γ)(hB:∀j x Z s,B j x Z s=bnd (iD s (f x)) λl=>Z l)(k:Nat)(hk:∀x,(f x).length≤k):∀(l:List α) (j:Nat) (s:List γ),s.length+k*l.length≤1000000→bz l j B K s=K (s++l.flatMap f)
 |[],j,s,_=>by simp[bz]
 |x::r,j,s,h=>by
  have:=hk x;simp only[List.length_cons,Nat.mul_add,Nat.mul_one]at h;rw[bz,hB,oO (by omega),aM,adi f hB k hk r (j+1) _ (by simp;omega)];simp
theorem nA{g:af}{a:ai}:a∈dS g↔∃l∈g.Links,a=ai.mk (aC.mk l.A l.B) l.ec∨a=ai.mk (aC.mk l.B l.A) l.eB:=by
 simp[dS,nS]
theorem agx{a b:aC}(h:a≠b):cR [λx:aC=>x.aD,λx:aC=>x.To] a b<0∨cR [λx:aC=>x.aD,λx:aC=>x.To] b a<0:=by
 rw[gh,gh,gh,gh];have h2:a.aD≠b.aD∨a.To≠b.To:=by
  apply Classical.byContradiction;intro hn;have e1:a.aD=b.aD:=Classical.byContradiction λx=>hn (.inl x);have e2:a.To=b.To:=Classical.byContradiction λx=>hn (.inr x);apply h;cases a;cases b
  simp only at e1 e2;rw[e1,e2]
 simp only[cR];omega
theorem aaU{g:af}(hv:Vt g):(dS g).Pairwise λa b=>a.Hop≠b.Hop:=by
 unfold dS;rw[List.pairwise_flatMap];refine⟨λl hl=>?_,hv.ac7.imp_of_mem λ{a b} ha hb hab=>?_⟩
 ·have:=hv.lt l hl;simp only[nS,List.pairwise_cons,List.mem_cons,List.not_mem_nil,or_false,forall_eq,List.Pairwise.nil,and_true,false_imp_iff,implies_true];intro h;injection h with h1 h2
  omega
 ·have h1:=hv.lt a ha;have h2:=hv.lt b hb;simp only[ltL,Bool.or_eq_true,Bool.and_eq_true,decide_eq_true_eq]at hab;intro x hx y hy;simp only[nS,List.mem_cons,List.not_mem_nil,or_false]at hx hy;rcases hx with rfl|rfl<;>rcases hy with rfl|rfl<;>(simp only;intro h;injection h with h3 h4;omega)
theorem aiD{l:aU}(h:nQ l=false):(1≤l.ec∧l.ec≤1000)∧1≤l.eB∧l.eB≤1000:=by
 simp only[nQ,rM,Bool.or_eq_false_iff,Bool.not_eq_false',Bool.and_eq_true,decide_eq_true_eq]at h;exact⟨h.1.1.1,h.1.1.2⟩
theorem qp(g:af):(dS g).length=2*g.Links.length:=by
 unfold dS;induction g.Links with
 |nil=>rfl
 |cons a r ih=>rw[List.flatMap_cons,List.length_append,ih];simp[nS];omega
theorem agy{α γ:Type}{f:α→γ}:∀{l:List α},(l.Pairwise λa b=>f a≠f b)→∀a∈l,∀b∈l,f a=f b→a=b
 |[],_,a,ha,_,_,_=>by cases ha
 |x::r,h,a,ha,b,hb,e=>by
  rw[List.pairwise_cons]at h;rcases List.mem_cons.1 ha with h1|h1<;>rcases List.mem_cons.1 hb with h2|h2
  ·rw[h1,h2]
  ·subst h1;exact absurd e (h.1 b h2)
  ·subst h2;exact absurd e.symm (h.1 a h1)
  ·exact agy h.2 a h1 b h2 e
theorem ug{g:af}(hv:Vt g):iZ (dS g):=by
 refine⟨λa ha=>?_,λa ha=>?_,agy (aaU hv),?_⟩
 ·obtain⟨l,hl,h⟩:=nA.1 ha;have:=aiD (hv.okl l hl);rcases h with rfl|rfl<;>(simp only;omega)
 ·obtain⟨l,hl,h⟩:=nA.1 ha;have h1:=hv.ends l hl;have h2:=sK.1 h1.1;have h3:=sK.1 h1.2;obtain⟨x,hx,hx2⟩:=h2;obtain⟨y,hy,hy2⟩:=h3;have h4:=hv.idr x hx;have h5:=hv.idr y hy;rcases h with rfl|rfl<;>(simp only;omega)
 ·have:=hv.nl;rw[qp];omega
theorem asN{g:af}(hv:Vt g):∃m,pK g=some m∧m.Perm (dS g):=by
 have hnl:=hv.nl;have hlen:=qp g;obtain⟨m,h1,h2,h3⟩:=w8 (ks:=[λx:ai=>x.Hop.aD,λx:ai=>x.Hop.To]) (l:=dS g) ((aaU hv).imp λ{a b} h=>agx h) (by omega);refine⟨m,?_,h2⟩;unfold pK;refine(adi nS (λj x Z s=>rfl) 2 (λx=>Nat.le_refl _) _ _ _ (by simp;omega)).trans ?_;rw[List.nil_append];show bnd (jQ _ (dS g)) _=_;rw[h1];rfl
variable {a b:List ai}
theorem ad6(h:a.Perm b)(hb:iZ b):iZ a:=⟨λx hx=>hb.cost x (h.mem_iff.1 hx),λx hx=>hb.to x (h.mem_iff.1 hx),λx hx y hy=>hb.hop x (h.mem_iff.1 hx) y (h.mem_iff.1 hy),by rw[h.length_eq];exact hb.len⟩
variable {T:Int→Prop}
theorem Opt.same{A:Type}[DecidableEq A]{N:Net A}{L L':List A}(hs:∀a,a∈L↔a∈L'){v:Int}{H:List A}(h:Opt N L T v H):Opt N L' T v H:=
 ⟨λa ha=>(hs a).1 (h.sub a ha),λa ha=>h.pos a ((hs a).2 ha),h.cov,λK hK=>h.min K λa ha=>(hs a).2 (hK a ha)⟩
theorem apN{A:Type}[DecidableEq A]{N:Net A}{L:List A}{v:Int}(hp:∀a∈L,0<N.cost a)(hc:∀t,T t→Con N L v t):∃H,Opt N L T v H:=by
 have:∀(n:Nat) (K:List A),(∀a∈K,a∈L)→(∀t,T t→Con N K v t)→dw N K≤n→∃H,Opt N L T v H:=by
  intro n;induction n with
  |zero=>
   intro K h1 h2 h3;refine⟨K,h1,hp,h2,λK' h4 _=>?_⟩;have:0≤dw N K':=tE λa ha=>by have:=hp a (h4 a ha);omega
   simp only[Int.ofNat_zero]at h3;omega
  |succ n ih=>
   intro K h1 h2 h3;by_cases hx:∃K',(∀a∈K',a∈L)∧(∀t,T t→Con N K' v t)∧dw N K'<dw N K
   ·obtain⟨K',g1,g2,g3⟩:=hx;exact ih K' g1 g2 (by omega)
   ·refine⟨K,h1,hp,h2,λK' h4 h5=>?_⟩;apply Classical.byContradiction;intro hlt;exact hx ⟨K',h4,h5,by omega⟩
 exact this (dw N L).toNat L (λa ha=>ha) hc (by omega)
variable {ts:List Int}
theorem agz(h:a.Perm b){root:Int}{hs:List aC}{c:Int}(hb:pM a root ts hs c):pM b root ts hs c:=by
 obtain⟨⟨Hs,h1,h2,h3⟩,h4⟩:=hb;exact⟨⟨Hs,h1.same λa=>h.mem_iff,h2,h3⟩,h4⟩
variable {aq:List ai}
theorem aiE{Hs:List ai}(hA:iZ aq)(h:∀a∈Hs,a∈aq):(Hs.length:Int)≤dw bk Hs:=(kP λa ha=>hA.cost a (h a ha)).1
theorem alY(hA:iZ aq){root:Int}(hc:∀t,t∈ts→Con bk aq root t):∃hs c,pM aq root ts hs c:=by
 obtain⟨Hs,hO⟩:=apN (N:=bk) (L:=aq) (T:=λt=>t∈ts) (λa ha=>by have:=(hA.cost a ha).1;show 0<a.cU;omega) hc;have h1:=aiE hA hO.sub;have h2:=hO.min aq (λa ha=>ha) hc;have h3:=(kP hA.cost).2;have h4:=hA.len;obtain⟨m,_,g2,g3⟩:=yU hA hO (by omega);exact⟨m,_,⟨Hs,hO,rfl,g2⟩,g3⟩
end
section
def pk(S:Nat):Nat→List ai→List ai
 |_,[]=>[]
 |i,a::r=>if S.testBit i then a::pk S (i+1) r else pk S (i+1) r
def addA(v:List Int)(a:ai):List Int:=if a.Hop.aD∈v then jX v a.Hop.To else v
def rnd(H:List ai)(v:List Int):List Int:=H.foldl addA v
def rounds(H:List ai):Nat→List Int→List Int
 |0,v=>v
 |n+1,v=>rounds H n (rnd H v)
end
section
theorem adk{n:Int}(h0 : -1000000≤n)(h1:n≤4000000000):w64 n=n:=by unfold w64;rw[IntKind.wrap_i64];omega
def plc(t:af)(x:Int):Nat:=(ids t).idxOf x
variable {t:af}{x:Int}
theorem z6(h:x∈ids t):plc t x<t.ay.length:=by
 have:=List.idxOf_lt_length_of_mem h;simpa [ids,plc]using this
theorem alZ{y:Int}(hx:x∈ids t)(hy:y∈ids t)(h:plc t x=plc t y):x=y:=by
 have h1:=List.getElem_idxOf (List.idxOf_lt_length_of_mem hx);have h2:=List.getElem_idxOf (List.idxOf_lt_length_of_mem hy);unfold plc at h;rw[←h1,←h2];simp only[h]
theorem aaV{β:Type}(x:Int)(g:Int→Option β)(a:Option β):∀(l:List aW) (j:Nat),bz l j (λ(j1:Int) (e1:aW) (Z1:Unit→Option β) (_:Unit)=>bif decide (e1.ID=x)then g j1 else Z1 ()) (λ_=>a) () =
  if x∈l.map (·.ID)then g ((j+(l.map (·.ID)).idxOf x:Nat):Int)else a
 |[],j=>by simp[bz]
 |r::l,j=>by
  show(bif decide (r.ID=x)then g (j:Int)else bz l (j+1) (λ(j1:Int) (e1:aW) (Z1:Unit→Option β) (_:Unit)=>bif decide (e1.ID=x)then g j1 else Z1 ()) (λ_=>a) ())=_;by_cases h:r.ID=x
  ·rw[decide_eq_true h,cond_true];subst h;simp
  ·have:=aaV x g a l (j+1);rw[decide_eq_false h,cond_false,this];simp only[List.map_cons,List.mem_cons,Ne.symm h,false_or,List.idxOf_cons];have hb:(r.ID==x)=false:=by simpa using h
   rw[hb];simp only[cond_false];rw[show j+1+List.idxOf x (List.map (λx=>x.ID) l)=j+(List.idxOf x (List.map (λx=>x.ID) l)+1)by omega]
theorem abC(h:x∈ids t):mD t x=some (plc t x:Int):=by
 have:=aaV x (λj=>some j) (some (0:Int)) t.ay 0;have h':x∈t.ay.map (·.ID):=h;rw[if_pos h',Nat.zero_add]at this;exact this
theorem apP(t:af)(d:List Int)(x:Int):nK t d x=if x∈ids t then elO d (plc t x:Int)else some 1073741824:=by
 have:=aaV x (λj=>bnd (elO d j) λe=>some e) (some 1073741824) t.ay 0;rw[Nat.zero_add]at this;have e:∀o:Option Int,(bnd o λe=>some e)=o:=λo=>by cases o<;>rfl
 unfold nK;refine Eq.trans this ?_;rw[e];rfl
def cG(t:af)(d:List Int)(x:Int):Int:=d.getD (plc t x) 1073741824
variable {d:List Int}
theorem aaW(hd:d.length=t.ay.length)(hx:x∈ids t):elO d (plc t x:Int)=some (cG t d x):=by
 have h:=z6 hx;rw[←hd]at h;unfold elO cG;rw[if_pos (by omega)];simp[List.getD_eq_getElem?_getD,h]
theorem al0(hd:d.length=t.ay.length){y v:Int}(hx:x∈ids t)(hy:y∈ids t):cG t (d.set (plc t x) v) y=if y=x then v else cG t d y:=by
 have h:=z6 hx;rw[←hd]at h;unfold cG;rw[List.getD_eq_getElem?_getD,List.getD_eq_getElem?_getD,List.getElem?_set];by_cases e:y=x
 ·subst e;simp[h]
 ·rw[if_neg (λe'=>e (alZ hy hx e'.symm)),if_neg e]
structure Bf(t:af)(to:Int)(d:List Int):Prop where
 len:d.length=t.ay.length
 le:∀x∈ids t,cG t d x≤1073741824
 wk:∀x∈ids t,cG t d x<1073741824→Wk (lkC t) x to (cG t d x)
 z:cG t d to≤0
def qt(t:af)(d:List Int)(x y w:Int):List Int:=if cG t d y<1073741824 then d.set (plc t x) (if w+cG t d y<cG t d x then w+cG t d y else cG t d x)else d
variable {to w:Int}
theorem abD(hv:Vt t)(hB:Bf t to d){y:Int}(hx:x∈ids t)(hy:y∈ids t)(hw:1≤w∧w≤1000){β:Type}(J:List Int→Option β):
  (bnd (elO d (plc t y:Int)) λ(e4:Int)=>bif decide (e4<(1073741824:Int))then bnd (elO d (plc t x:Int)) λ(e5:Int)=>bnd (jU d (plc t x:Int) (if(w64 (w+e4))<e5 then w64 (w+e4)else e5)) λ(l3:List Int)=>J l3 else J d)=J (qt t d x y w):=by
 rw[aaW hB.len hy,aM];unfold qt;by_cases h:cG t d y<1073741824
 ·rw[if_pos h,show decide (cG t d y<1073741824)=true from decide_eq_true h,cond_true,aaW hB.len hx,aM];have h0:=(hB.wk y hy h).adj (rV hv);rw[adk (by omega) (by omega)];have hl:=z6 hx;have hlen:=hB.len;unfold jU;rw[if_pos (by omega),aM];simp
 ·rw[if_neg h,show decide (cG t d y<1073741824)=false from decide_eq_false h,cond_false]
theorem adl(hv:Vt t)(hto:to∈ids t)(hB:Bf t to d){y:Int}(hw:lkC t x y=some w):
  Bf t to (qt t d x y w)∧(∀z∈ids t,cG t (qt t d x y w) z≤cG t d z)∧(cG t d y<1073741824→cG t (qt t d x y w) x≤w+cG t d y):=by
 obtain⟨hx,hy⟩:=rW hv hw;unfold qt;by_cases h:cG t d y<1073741824
 ·rw[if_pos h];have hval:∀z∈ids t,cG t (d.set (plc t x) (if w+cG t d y<cG t d x then w+cG t d y else cG t d x)) z=if z=x then(if w+cG t d y<cG t d x then w+cG t d y else cG t d x)else cG t d z:=λz hz=>al0 hB.len hx hz
  have hle:∀z∈ids t,cG t (d.set (plc t x) (if w+cG t d y<cG t d x then w+cG t d y else cG t d x)) z≤cG t d z:=λz hz=>by
   rw[hval z hz];split
   ·rename_i e;subst e;split<;>omega
   ·exact Int.le_refl _
  refine⟨⟨by simp[hB.len],λz hz=>Int.le_trans (hle z hz) (hB.le z hz),λz hz hlt=>?_,Int.le_trans (hle to hto) hB.z⟩,hle,λ_=>?_⟩
  ·rw[hval z hz]at hlt ⊢;split
   ·rename_i e;subst e
    rw[if_pos rfl]at hlt;split
    ·exact(Wk.one hw).trans (hB.wk y hy h)
    ·rename_i hn;rw[if_neg hn]at hlt;exact hB.wk z hz hlt
   ·rename_i e;rw[if_neg e]at hlt;exact hB.wk z hz hlt
  ·rw[hval x hx,if_pos rfl];split<;>omega
 ·rw[if_neg h];exact⟨hB,λz _=>Int.le_refl _,λh'=>absurd h' h⟩
open Classical in
noncomputable def pQ(t:af)(to:Int)(d:List Int)(x:Int):Bool:=decide (∃k,dst (lkC t) x to=some k∧k<cG t d x)
noncomputable def rj(t:af)(to:Int)(d:List Int):Nat:=((ids t).filter (pQ t to d)).length
variable {α:Type}
theorem adJ{p q:α→Bool}{l:List α}(h:∀x∈l,q x=true→p x=true):(l.filter q).length≤(l.filter p).length∧∀x∈l,p x=true→q x=false→(l.filter q).length<(l.filter p).length:=by
 induction l with
 |nil=>simp
 |cons y l ih=>
  obtain⟨i1,i2⟩:=ih λx hx=>h x (by simp[hx]);have hy:=h y (by simp);cases hq:q y with
  |true=>
   rw[List.filter_cons_of_pos hq,List.filter_cons_of_pos (hy hq)];refine⟨by simpa using i1,λx hx hp hn=>?_⟩;rcases List.mem_cons.1 hx with rfl|hx
   ·rw[hq]at hn;cases hn
   ·have:=i2 x hx hp hn;simpa using this
  |false=>
   rw[List.filter_cons_of_neg (by simp[hq])];cases hp:p y with
   |true=>
    rw[List.filter_cons_of_pos hp];simp only[List.length_cons];exact⟨by omega,λx hx _ _=>by omega⟩
   |false=>
    rw[List.filter_cons_of_neg (by simp[hp])];refine⟨i1,λx hx hp' hn=>?_⟩;rcases List.mem_cons.1 hx with rfl|hx
    ·rw[hp]at hp';cases hp'
    ·exact i2 x hx hp' hn
theorem uh(hv:Vt t){l:aU}(hl:l∈t.Links):lkC t l.A l.B=some l.ec∧lkC t l.B l.A=some l.eB:=by
 have hlt:=hv.lt l hl;have hne:l.A≠l.B:=by omega
 constructor
 ·refine nB.2 ⟨ql.2 ⟨l,hl,.inl ⟨rfl,rfl⟩⟩,?_⟩;rw[ny hv hl (by simp[fK])];simp[j9]
 ·refine nB.2 ⟨ql.2 ⟨l,hl,.inr ⟨rfl,rfl⟩⟩,?_⟩;rw[ny hv hl (by simp[fK])];simp[j9,hne]
variable {k:Int}
theorem z7{g:af}(hv:Vt g){y:Int}:lkC g x y=some k↔ai.mk (aC.mk x y) k∈dS g:=by
 rw[nA];constructor
 ·intro h;obtain⟨h1,h2⟩:=nB.1 h;obtain⟨l,hl,h3⟩:=ql.1 h1;obtain⟨c1,c2⟩:=uh hv hl;rcases h3 with⟨rfl,rfl⟩|⟨rfl,rfl⟩
  ·rw[c1]at h;cases h
   exact⟨l,hl,.inl rfl⟩
  ·rw[c2]at h;cases h
   exact⟨l,hl,.inr rfl⟩
 ·rintro⟨l,hl,h|h⟩
  ·injection h with h1 h2
   injection h1 with h3 h4
   subst h3;subst h4;subst h2
   exact(uh hv hl).1
  ·injection h with h1 h2
   injection h1 with h3 h4
   subst h3;subst h4;subst h2
   exact(uh hv hl).2
theorem apQ{g:af}(hv:Vt g){y:Int}(h:Con bk (dS g) x y):∃m,Wk (lkC g) x y m:=by
 induction h with
 |refl v=>exact⟨0,.nil⟩
 |step a ha _ ih=>
  obtain⟨m,hm⟩:=ih;have:lkC g a.Hop.aD a.Hop.To=some a.cU:=(z7 hv).2 ha;exact⟨_,(Wk.one this).trans hm⟩
theorem agC{g:af}(hv:Vt g){y m:Int}(h:Wk (lkC g) x y m):Con bk (dS g) x y:=by
 induction h with
 |nil=>exact .refl _
 |@snoc x b m k _ hk ih=>exact ih.trans (Con.one (N:=bk) (a:=ai.mk (aC.mk x b) k) ((z7 hv).1 hk))
theorem agD{g:af}(hv:Vt g):∀(n:Nat) (U:List Int) (H:List ai) (x t:Int),U.length=n→(∀a∈H,a∈dS g)→(∀a∈H,a.Hop.aD∈U)→Con bk H x t→∃m,Wk (lkC g) x t m∧m≤1000*(n:Int):=by
 intro n;induction n with
 |zero=>
  intro U H x t hU hH hf h;cases h with
  |refl _=>exact⟨0,.nil,by omega⟩
  |step a ha _=>
   have:=hf a ha;rw[List.eq_nil_of_length_eq_zero hU]at this;cases this
 |succ n ih=>
  intro U H x t hU hH hf h;by_cases hxt:x=t
  ·subst hxt;exact⟨0,.nil,by omega⟩
  ·obtain⟨e,he,hs,hc⟩:=wX h hxt;have hs:e.Hop.aD=x:=hs;have heU:=hf e he;rw[hs]at heU
   obtain⟨m,h1,h2⟩:=ih (U.erase x) _ e.Hop.To t (by rw[List.length_erase_of_mem heU];omega) (λa ha=>hH a (List.mem_filter.1 ha).1) (λa ha=>by
    obtain⟨q1,q2⟩:=List.mem_filter.1 ha;have q3:¬bk.src a=x:=by simpa using q2
    exact(List.mem_erase_of_ne q3).2 (hf a q1)) hc
   have hk:lkC g x e.Hop.To=some e.cU:=by rw[←hs];exact(z7 hv).2 (hH e he)
   have:=(zZ hv hk).2;exact⟨_,(Wk.one hk).trans h1,by omega⟩
variable {a b:Int}
theorem xu(hv:Vt t)(ha:a∈ids t)(h:dst (lkC t) a b=some k):0≤k∧k≤24000:=by
 obtain⟨m,h1,h2⟩:=agD hv _ (ids t) (dS t) a b rfl (λa ha=>ha) (λa ha=>(rW hv ((z7 hv).2 ha)).1) (agC hv (gR.1 h).1);have h3:=(gR.1 h).2 _ h1;have h4:=hv.nr;have h5:(ids t).length=t.ay.length:=by simp[ids]
 exact⟨vF (rV hv) h,by omega⟩
theorem afj(hv:Vt t){d':List Int}(hB:Bf t to d)(hle:∀z∈ids t,cG t d' z≤cG t d z)
  (hr:∀l∈t.Links,(cG t d l.B<1073741824→cG t d' l.A≤l.ec+cG t d l.B)∧(cG t d l.A<1073741824→cG t d' l.B≤l.eB+cG t d l.A)):rj t to d'≤rj t to d∧(rj t to d≠0→rj t to d'<rj t to d):=by
 have hmono:∀x∈ids t,pQ t to d' x=true→pQ t to d x=true:=λx hx h=>by
  simp only[pQ,decide_eq_true_eq]at h ⊢;obtain⟨k,h1,h2⟩:=h;exact⟨k,h1,by have:=hle x hx;omega⟩
 obtain⟨f1,f2⟩:=adJ hmono;refine⟨f1,λhne=>?_⟩;have ex:∀(n:Nat) (x k:Int),k.toNat=n→x∈ids t→dst (lkC t) x to=some k→k<cG t d x→∃x k,x∈ids t∧dst (lkC t) x to=some k∧k<cG t d x∧∀y m,y∈ids t→dst (lkC t) y to=some m→m<k→cG t d y≤m:=by
  intro n;induction n using Nat.strongRecOn with
  |_ n ih=>
   intro x k hn hx h1 h2;by_cases hall:∀y m,y∈ids t→dst (lkC t) y to=some m→m<k→cG t d y≤m
   ·exact⟨x,k,hx,h1,h2,hall⟩
   ·have:∃y m,y∈ids t∧dst (lkC t) y to=some m∧m<k∧m<cG t d y:=by
     refine Classical.byContradiction λhc=>hall λy m q1 q2 q3=>?_;by_cases q:cG t d y≤m
     ·exact q
     ·exact absurd ⟨y,m,q1,q2,q3,by omega⟩ hc
    obtain⟨y,m,q1,q2,q3,q4⟩:=this;have:=vF (rV hv) q2;exact ih m.toNat (by omega) y m rfl q1 q2 q4
 have:∃x,x∈(ids t).filter (pQ t to d):=by
  cases hf:(ids t).filter (pQ t to d)with
  |nil=>exact absurd (by unfold rj;rw[hf];rfl) hne
  |cons x r=>exact⟨x,by simp⟩
 obtain⟨x0,hx0⟩:=this;obtain⟨m1,m2⟩:=List.mem_filter.1 hx0;simp only[pQ,decide_eq_true_eq]at m2;obtain⟨k0,m3,m4⟩:=m2;obtain⟨x,k,x1,x2,x3,x4⟩:=ex _ x0 k0 rfl m1 m3 m4;refine f2 x x1 (by simp only[pQ,decide_eq_true_eq];exact⟨k,x2,x3⟩) ?_;simp only[pQ,decide_eq_false_iff_not];rintro⟨k',y1,y2⟩;rw[x2]at y1;cases y1
 have hxt:x≠to:=λe=>by
  subst e;have:=vF (rV hv) x2;have:=hB.z;omega
 obtain⟨y,w,m,z1,z2,z3⟩:=agB x2 hxt;obtain⟨_,hy⟩:=rW hv z1;have hw:=zZ hv z1;have hvy:=x4 y m hy z2 (by omega);have hsm:=xu hv hy z2;obtain⟨l,hl,he⟩:=ql.1 (nB.1 z1).1;have hlt:=hv.lt l hl;rcases he with⟨rfl,rfl⟩|⟨rfl,rfl⟩
 ·have hc:w=l.ec:=by
   rw[←(nB.1 z1).2,ny hv hl (by simp[fK])];simp[j9]
  have:=(hr l hl).1 (by omega);omega
 ·have hc:w=l.eB:=by
   have:l.A≠l.B:=by omega
   rw[←(nB.1 z1).2,ny hv hl (by simp[fK])];simp[j9,this]
  have:=(hr l hl).2 (by omega);omega
structure ToP(t:af)(to:Int)(d:List Int):Prop where
 len:d.length=t.ay.length
 val:∀x∈ids t,cG t d x=(dst (lkC t) x to).getD 1073741824
theorem apR(hv:Vt t)(hto:to∈ids t):Ok (pL t to) (ToP t to):=by
 have hn:t.ay.length≤24:=hv.nr;unfold pL;refine Ok.chk (by simp;omega) ?_;refine Ok.whl (λ(s:List Int×Int)=>s.1.length=t.ay.length∧0≤s.2∧s.2≤(t.ay.length:Int)∧∀j:Nat,(j:Int)<s.2→s.1[j]?=((ids t)[j]?).map λy=>if y=to then 0 else 1073741824) (λ(s:List Int×Int)=>((t.ay.length:Int)-s.2).toNat) (s:=(List.replicate ((t.ay.length:Int)).toNat (0:Int),(0:Int))) ⟨by simp,Int.le_refl _,by simp,λj hj=>by simp at hj;omega⟩ (by simp;omega) ?_;rintro⟨d,i⟩ Z ⟨i1,i2,i3,i4⟩ hZ;simp only at i1 i2 i3 i4 hZ ⊢;refine Ok.cs (λh1=>?_) λh1=>?_
 ·have hi:i<d.length:=of_decide_eq_true h1;refine Ok.jn (λd2=>d2.length=t.ay.length∧∀j:Nat,(j:Int)<i+1→d2[j]?=((ids t)[j]?).map λy=>if y=to then 0 else 1073741824) (λd2 hd2=>?_) λJ hJ=>?_
  ·rw[adk (by omega) (by omega)];exact hZ (d2,i+1) ⟨hd2.1,by omega,by omega,hd2.2⟩ (by simp only;omega)
  refine Ok.bnd (jN i2 (by omega)) λ_ _=>Ok.bnd (ue i2 hi) λl1 hl1=>Ok.bnd (jN i2 (by omega)) λe he=>?_;have hid:(ids t)[i.toNat]?=some e.ID:=by simp[ids,he.2]
  obtain⟨rfl,hl2⟩:=hl1
  have ajV:∀(v:Int) (l:List Int),l=d.set i.toNat v→v=(if e.ID=to then 0 else 1073741824)→l.length=t.ay.length∧∀j:Nat,(j:Int)<i+1→l[j]?=((ids t)[j]?).map λy=>if y=to then 0 else 1073741824:=by
   rintro v l rfl hvv;refine⟨by simpa using i1,λj hj=>?_⟩;rw[List.getElem?_set];by_cases e1:i.toNat=j
   ·subst e1;rw[if_pos rfl,if_pos (by omega),hid,hvv];rfl
   ·rw[if_neg e1];exact i4 j (by omega)
  refine Ok.cs (λh2=>?_) λh2=>?_
  ·refine Ok.bnd (jN i2 (by simpa using hi)) λ_ _=>Ok.bnd (ue i2 (by simpa using hi)) λl2 hl3=>hJ l2 (ajV 0 l2 (by rw[hl3.1,List.set_set]) (by rw[if_pos (of_decide_eq_true h2)]))
  ·exact hJ _ (ajV 1073741824 _ rfl (by rw[if_neg (of_decide_eq_false h2)]))
 have hi:i=(t.ay.length:Int):=by have:=of_decide_eq_false h1;omega
 subst hi
 have hv0:∀x∈ids t,cG t d x=if x=to then 0 else 1073741824:=λx hx=>by
  have hp:=z6 hx;have:=i4 (plc t x) (by omega);rw[show(ids t)[plc t x]?=some x by
   unfold plc;rw[List.getElem?_eq_getElem (List.idxOf_lt_length_of_mem hx)];exact congrArg some (List.getElem_idxOf _)]at this
  unfold cG;rw[List.getD_eq_getElem?_getD,this];rfl
 have hB0:Bf t to d:=⟨i1,λx hx=>by rw[hv0 x hx];split<;>omega,λx hx h=>by
  rw[hv0 x hx]at h ⊢;split
  ·rename_i e;subst e;exact .nil
  ·rename_i e;rw[if_neg e]at h;omega,by rw[hv0 to hto,if_pos rfl];exact Int.le_refl _⟩
 have hbad:rj t to d≤t.ay.length:=by
  have:=List.length_filter_le (pQ t to d) (ids t);simpa [rj,ids]using this
 refine Ok.whl (λ(s:List Int×Int)=>Bf t to s.1∧0≤s.2∧s.2≤(t.ay.length:Int)∧(rj t to s.1:Int)+s.2≤(t.ay.length:Int)) (λ(s:List Int×Int)=>((t.ay.length:Int)-s.2).toNat) (s:=(d,(0:Int))) ⟨hB0,Int.le_refl _,by simp,by simp;omega⟩ (by simp;omega) ?_;rintro⟨d,round⟩ Z ⟨j1,j2,j3,j4⟩ hZ;simp only at j1 j2 j3 j4 hZ ⊢;refine Ok.cs (λh1=>?_) λh1=>.s ?_
 ·have hr:round<(t.ay.length:Int):=by have:=of_decide_eq_true h1;rw[j1.len]at this;exact this
  refine Ok.qm (λp d'=>Bf t to d'∧(∀z∈ids t,cG t d' z≤cG t d z)∧∀l∈p,(cG t d l.B<1073741824→cG t d' l.A≤l.ec+cG t d l.B)∧(cG t d l.A<1073741824→cG t d' l.B≤l.eB+cG t d l.A)) ?_ _ ⟨j1,λ_ _=>Int.le_refl _,by simp⟩ ?_
  ·rintro p l r d4 Z2 hL ⟨k1,k2,k3⟩ hZ2;have hl:l∈t.Links:=by rw[hL];simp
   obtain⟨c1,c2⟩:=uh hv hl;obtain⟨a1,a2⟩:=rW hv c1;obtain⟨r1,r2,r3⟩:=adl hv hto k1 c1;obtain⟨s1,s2,s3⟩:=adl hv hto r1 c2;have q1:=abD (β:=List Int) hv k1 a1 a2 (zZ hv c1);have q2:=abD (β:=List Int) hv r1 a2 a1 (zZ hv c2)
   have final:=hZ2 (qt t (qt t d4 l.A l.B l.ec) l.B l.A l.eB) ⟨s1,λz hz=>Int.le_trans (s2 z hz) (Int.le_trans (r2 z hz) (k2 z hz)),λm hm=>by
    rcases List.mem_append.1 hm with hm|hm
    ·obtain⟨u1,u2⟩:=k3 m hm;have hm2:m∈t.Links:=by rw[hL];simp[hm]
     obtain⟨b1,b2⟩:=rW hv (uh hv hm2).1;exact⟨λh=>by have:=u1 h;have:=s2 _ b1;have:=r2 _ b1;omega,λh=>by have:=u2 h;have:=s2 _ b2;have:=r2 _ b2;omega⟩
    ·rw[List.mem_singleton.1 hm];refine⟨λh=>?_,λh=>?_⟩
     ·have e1:=k2 _ a2;have e2:=r3 (by omega);have e3:=s2 _ a1;omega
     ·have e1:=k2 _ a1;have e2:=r2 _ a1;have e3:=s3 (by omega);omega⟩
   rw[abC a1,abC a2];refine Eq.mpr (congrArg (λo=>Ok o (ToP t to)) ?_) final;refine(q1 _).trans ?_;exact q2 _
  ·rintro d' ⟨k1,k2,k3⟩;rw[adk (by omega) (by omega)];obtain⟨n1,n2⟩:=afj hv j1 k2 k3;refine hZ (d',round+1) ⟨k1,by omega,by omega,?_⟩ (by simp only;omega);by_cases hz:rj t to d=0
   ·simp only;omega
   ·have:=n2 hz;simp only;omega
 ·have hr:round=(t.ay.length:Int):=by have:=of_decide_eq_false h1;rw[j1.len]at this;omega
  have hb:rj t to d=0:=by omega
  refine⟨j1.len,λx hx=>?_⟩;have hnb:pQ t to d x=false:=by
   cases hq:pQ t to d x with
   |false=>rfl
   |true=>
    have:x∈(ids t).filter (pQ t to d):=List.mem_filter.2 ⟨hx,hq⟩;have:=List.length_pos_of_mem this;unfold rj at hb;omega
  simp only[pQ,decide_eq_false_iff_not]at hnb;cases hd:dst (lkC t) x to with
  |some k=>
   have hsm:=xu hv hx hd;have h1:cG t d x≤k:=by
    by_cases q:cG t d x≤k
    ·exact q
    ·exact absurd ⟨k,hd,by omega⟩ hnb
   have h2:=(gR.1 hd).2 _ (j1.wk x hx (by omega));simp only[Option.getD_some];omega
  |none=>
   simp only[Option.getD_none];have h1:=j1.le x hx;by_cases q:cG t d x<1073741824
   ·exact absurd (j1.wk x hx q) ((aiF (rV hv)).1 hd _)
   ·omega
open Classical in
noncomputable def dT(t:af)(a b:Int):Option Int:=if iL t=0∧a∈ids t∧b∈ids t then dst (lkC t) a b else none
theorem ajW(hv:Vt t)(ha:a∈ids t)(hb:b∈ids t):dT t a b=dst (lkC t) a b:=by
 unfold dT;rw[if_pos ⟨nw.2 hv,ha,hb⟩]
theorem apS(h:dT t a b=some k):Vt t∧a∈ids t∧b∈ids t∧dst (lkC t) a b=some k:=by
 unfold dT at h;split at h
 ·rename_i hc;exact⟨nw.1 hc.1,hc.2.1,hc.2.2,h⟩
 ·cases h
theorem agE(h:¬(iL t=0∧a∈ids t∧b∈ids t)):dT t a b=none:=by unfold dT;rw[if_neg h]
theorem aiH(h:dT t a b=some k):0≤k∧k≤24000:=by
 obtain⟨hv,ha,hb,hd⟩:=apS h;exact xu hv ha hd
noncomputable def vG(t:af)(a b:Int):Int×Bool:=((dT t a b).getD 0,(dT t a b).isSome)
theorem asO(hv:Vt t)(hto:to∈ids t)(hd:ToP t to d)(x:Int):nK t d x=some ((dT t x to).getD 1073741824):=by
 rw[apP];by_cases hx:x∈ids t
 ·rw[if_pos hx,aaW hd.len hx,hd.val x hx,ajW hv hx hto]
 ·rw[if_neg hx,agE λe=>hx e.2.1];rfl
theorem ad9{r:Int}:hasB t r=decide (r∈ids t):=by
 by_cases h:r∈ids t
 ·rw[decide_eq_true h,iM.1 h]
 ·rw[decide_eq_false h];cases hh:hasB t r with
  |false=>rfl
  |true=>exact absurd (iM.2 hh) h
theorem aiI(t:af)(a b:Int)(k:Bool→Option α):(jn k λJ=>bnd (gn t a) λ(v1:Bool)=>bif !v1 then J true else bnd (gn t b) λ(v2:Bool)=>J (!v2))=k (!decide (iL t=0∧a∈ids t∧b∈ids t)):=by
 simp only[jn];rw[uf,uf,aM,ad9,ad9];by_cases h:iL t=0<;>by_cases h1:a∈ids t<;>by_cases h2:b∈ids t<;>simp[h,h1,h2,bnd]
theorem agF(t:af)(a b:Int):nj t a b=some (vG t a b):=by
 unfold nj;refine(aiI t a b _).trans ?_;by_cases h:iL t=0∧a∈ids t∧b∈ids t
 ·have hv:=nw.1 h.1;obtain⟨d,h1,h2⟩:=apR hv h.2.2;rw[decide_eq_true h];simp only[Bool.not_true,cond_false];rw[h1,aM,asO hv h.2.2 h2,aM];unfold vG;cases hd:dT t a b with
  |none=>rfl
  |some k=>
   have:=aiH hd;simp only[Option.getD_some,Option.isSome_some];rw[decide_eq_false (by omega)];rfl
 ·rw[decide_eq_false h];unfold vG;rw[agE h];rfl
end
section
theorem aaX{f:Int→Int}:∀(b:List Int) (i:Nat),i<b.length→∀x,((b.set i x).map f).sum=(b.map f).sum-f (b.getD i 0)+f x
 |[],_,h,_=>by simp at h
 |y::b,0,_,x=>by simp;omega
 |y::b,i+1,h,x=>by
  have:=aaX (f:=f) b i (by simpa using h) x;simp only[List.set_cons_succ,List.map_cons,List.sum_cons,List.getD_cons_succ];omega
theorem aaY{f:Int→Int}{m:Int}(h:∀x,0≤f x∧f x≤m):∀b:List Int,0≤(b.map f).sum∧(b.map f).sum≤m*b.length
 |[]=>by simp
 |y::b=>by
  have h1:=aaY h b;have h2:=h y;simp only[List.map_cons,List.sum_cons,List.length_cons,Int.natCast_add,Int.mul_add];omega
theorem rN{b:List Int}{i:Nat}(hi:i<b.length)(x:Int)(v:Nat):(b.set i x).getD v 0=if v=i then x else b.getD v 0:=by
 rw[List.getD_eq_getElem?_getD,List.getD_eq_getElem?_getD,List.getElem?_set];by_cases h:v=i
 ·subst h;simp[hi]
 ·rw[if_neg h,if_neg λe=>h e.symm]
abbrev FAR:Int:=1099511627776
def rq(x:Int):Int:=if x<FAR then 1 else 0
def xw(x:Int):Int:=if x<FAR then(if x<0 then 0 else if x<4000000 then x else 4000000)else 5000000
def fin(b:List Int):Int:=(b.map rq).sum
theorem uj(b:List Int):0≤fin b∧fin b≤b.length:=by
 have:=aaY (f:=rq) (m:=1) (λx=>by unfold rq;split<;>omega) b;unfold fin;omega
theorem al1{b:List Int}{i:Nat}(hi:i<b.length)(x:Int):fin (b.set i x)=fin b-rq (b.getD i 0)+rq x:=aaX b i hi x
def ent(cs:List (List Int))(u v:Nat):Int:=(cs.getD u []).getD v 0
structure aaZ(V:List Int)(L:List ai)(cs:List (List Int)):Prop where
 nd:V.Nodup
 le:V.length≤24
 len:cs.length=V.length
 row:∀u,u<V.length→(cs.getD u []).length=V.length
 arc:∀a∈L,a.Hop.aD∈V∧a.Hop.To∈V∧ent cs (V.idxOf a.Hop.aD) (V.idxOf a.Hop.To)=a.cU∧1≤a.cU∧a.cU≤1000
 hop:∀u v,u<V.length→v<V.length→0<ent cs u v→ai.mk (aC.mk (V.getD u 0) (V.getD v 0)) (ent cs u v)∈L
theorem nC{V:List Int}{x:Int}(hx:x∈V):V.getD (V.idxOf x) 0=x:=by
 have h:=List.idxOf_lt_length_of_mem hx;rw[List.getD_eq_getElem?_getD,List.getElem?_eq_getElem h];exact List.getElem_idxOf h
theorem aaZ.le1{V:List Int}{L:List ai}{cs:List (List Int)}(h:aaZ V L cs){u v:Nat}(hu:u<V.length)(hv:v<V.length)(he:0<ent cs u v):ent cs u v≤1000:=(h.arc _ (h.hop u v hu hv he)).2.2.2.2
section tab
variable {V:List Int}{L:List ai}{cs:List (List Int)}{ts:List Int}
structure pR(V:List Int)(L:List ai)(ts:List Int)(S:Nat)(b:List Int):Prop where
 len:b.length=V.length
 bd:∀v,v<V.length→0≤b.getD v 0∧b.getD v 0≤FAR
 ok:∀v,v<V.length→b.getD v 0<FAR→b.getD v 0≤48000*S-48000+1000*fin b∧∃H,Trk bk L ts.length (λi=>ts.getD i 0) S (V.getD v 0) H∧dw bk H=b.getD v 0
structure vH(V:List Int)(L:List ai)(cs:List (List Int))(ts:List Int)(rows:List (List Int))(S:Nat)(b:List Int):Prop where
 s:pR V L ts S b
 one:∀i,i<ts.length→S=2 ^ i→b.getD (V.idxOf (ts.getD i 0)) 0≤0
 hop:∀u v,u<V.length→v<V.length→0<ent cs u v→b.getD u 0≤ent cs u v+b.getD v 0
 part:∀P R,0<P→0<R→P &&& R=0→P ||| R=S→∀v,v<V.length→b.getD v 0≤(rows.getD P []).getD v 0+(rows.getD R []).getD v 0
theorem pR.put{S:Nat}{b:List Int}(h:pR V L ts S b){u:Nat}(hu:u<V.length){c:Int}(h0:0≤c)(hc:c<FAR)(hb:c≤48000*S-48000+1000*fin b∨c≤48000*S-48000+1000*fin b+1000∧FAR≤b.getD u 0∨∃v,v<V.length∧v≠u∧b.getD v 0<FAR∧c≤b.getD v 0+1000∧c≤b.getD u 0)
  (hT:∃H,Trk bk L ts.length (λi=>ts.getD i 0) S (V.getD u 0) H∧dw bk H=c):pR V L ts S (b.set u c):=by
 have hub:u<b.length:=by rw[h.len];exact hu
 have hbu:=h.bd u hu;have hfs:=al1 hub c;have hfc:rq c=1:=by unfold rq;rw[if_pos hc]
 have hge:fin b≤fin (b.set u c):=by
  rw[hfs,hfc];unfold rq;split<;>omega
 refine⟨by rw[List.length_set];exact h.len,λv hv=>?_,λv hv uT=>?_⟩
 ·rw[rN hub];split
  ·omega
  ·exact h.bd v hv
 ·rw[rN hub]at uT ⊢;by_cases e:v=u
  ·subst e;rw[if_pos rfl];refine⟨?_,hT⟩;rcases hb with hb|⟨hb,hf⟩|⟨w,w1,w2,w3,w4,w5⟩
   ·omega
   ·have:rq (b.getD v 0)=0:=by unfold rq;rw[if_neg (by omega)]
    omega
   ·by_cases hf:b.getD v 0<FAR
    ·have:=(h.ok v hv hf).1;omega
    ·have:rq (b.getD v 0)=0:=by unfold rq;rw[if_neg hf]
     have:=(h.ok w w1 w3).1;omega
  ·rw[if_neg e]at uT ⊢;obtain⟨h1,h2⟩:=h.ok v hv uT;exact⟨by omega,h2⟩
theorem vH.le{rows:List (List Int)}{S:Nat}{b:List Int}(hV:V.length≤24)(h:vH V L cs ts rows S b){v:Nat}(hv:v<V.length)(hf:b.getD v 0<FAR):b.getD v 0≤48000*S-24000:=by
 have h1:=(h.s.ok v hv hf).1;have h2:=(uj b).2;have h3:=h.s.len;omega
theorem pR.step{S:Nat}{b:List Int}(hM:aaZ V L cs)(h:pR V L ts S b){u v:Nat}(hu:u<V.length)(hv:v<V.length)(he:0<ent cs u v)(hlt:ent cs u v+b.getD v 0<b.getD u 0):pR V L ts S (b.set u (ent cs u v+b.getD v 0)):=by
 have h1:=hM.le1 hu hv he;have h2:=h.bd v hv;have h3:=h.bd u hu;have hf:b.getD v 0<FAR:=by omega
 obtain⟨h4,H,h5,h6⟩:=h.ok v hv hf;refine h.put hu (by omega) (by omega) (.inr (.inr ⟨v,hv,λe=>by subst e;omega,hf,by omega,by omega⟩)) ⟨_,Trk.hop (N:=bk) _ (hM.hop u v hu hv he) h5,?_⟩;rw[gl,h6];rfl
theorem pR.join{rows:List (List Int)}{P R S:Nat}{b p r:List Int}(hV:V.length≤24)(h:pR V L ts S b)(hP:vH V L cs ts rows P p)(hR:vH V L cs ts rows R r)(h0:P &&& R=0)(ho:P ||| R=S)(hs:P+R=S){v:Nat}(hv:v<V.length)(hlt:p.getD v 0+r.getD v 0<b.getD v 0):pR V L ts S (b.set v (p.getD v 0+r.getD v 0)):=by
 have h1:=hP.s.bd v hv;have h2:=hR.s.bd v hv;have h3:=h.bd v hv;have f1:p.getD v 0<FAR:=by omega
 have f2:r.getD v 0<FAR:=by omega
 obtain⟨_,H,a1,a2⟩:=hP.s.ok v hv f1;obtain⟨_,K,b1,b2⟩:=hR.s.ok v hv f2;have c1:=hP.le hV hv f1;have c2:=hR.le hV hv f2;have hf:=(uj b).1;refine h.put hv (by omega) (by omega) (.inl (by omega)) ⟨H++K,?_,by rw[yq,a2,b2]⟩;have:=Trk.part (N:=bk) h0 a1 b1
 rwa [ho]at this
def mP(b:List Int):Int:=(b.map xw).sum
theorem aa0(b:List Int):0≤mP b∧mP b≤5000000*b.length:=aaY (λx=>by unfold xw;split;split;omega;split<;>omega;omega) b
theorem aiJ{S:Nat}(hS:S≤64){b:List Int}(hV:V.length≤24)(h:pR V L ts S b){u:Nat}(hu:u<V.length){c:Int}(h0:0≤c)(hlt:c<b.getD u 0)(h':pR V L ts S (b.set u c)):mP (b.set u c)<mP b:=by
 have hub:u<b.length:=by rw[h.len];exact hu
 have h1:=h.bd u hu;have hfb:=(uj b).2;have hfb':=(uj (b.set u c)).2;have hl':=h'.len;have hc:=h'.ok u hu (by rw[rN hub,if_pos rfl];omega);rw[rN hub,if_pos rfl]at hc;have hc1:=hc.1;have hl:=h.len;unfold mP;rw[aaX b u hub];have e1:xw c=c:=by unfold xw;rw[if_pos (by omega),if_neg (by omega),if_pos (by omega)]
 rw[e1];by_cases hf:b.getD u 0<FAR
 ·have h2:=(h.ok u hu hf).1;have e2:xw (b.getD u 0)=b.getD u 0:=by unfold xw;rw[if_pos hf,if_neg (by omega),if_pos (by omega)]
  rw[e2];omega
 ·have e2:xw (b.getD u 0)=5000000:=by unfold xw;rw[if_neg hf]
  rw[e2];omega
structure apT(V:List Int)(L:List ai)(cs:List (List Int))(ts:List Int)(rows:List (List Int))(n:Nat):Prop where
 len:n≤rows.length
 row:∀S,0<S→S<n→vH V L cs ts rows S (rows.getD S [])
theorem agG{rows:List (List Int)}(hM:aaZ V L cs)(ht:∀t∈ts,t∈V)(h:apT V L cs ts rows (2 ^ ts.length)){root:Int}(hr:root∈V)(h1:0<ts.length):
  (∀K,(∀a∈K,a∈L)→(∀t,t∈ts→Con bk K root t)→(rows.getD (2 ^ ts.length-1) []).getD (V.idxOf root) 0≤dw bk K)∧
  ((rows.getD (2 ^ ts.length-1) []).getD (V.idxOf root) 0<FAR→∃H,(∀a∈H,a∈L)∧(∀t,t∈ts→Con bk H root t)∧dw bk H=(rows.getD (2 ^ ts.length-1) []).getD (V.idxOf root) 0):=by
 have hp1:2 ^ 1≤2 ^ ts.length:=Nat.pow_le_pow_right (by omega) h1;have hix:∀{x},x∈V→V.idxOf x<V.length:=λhx=>List.idxOf_lt_length_of_mem hx;constructor
 ·intro K hK hc
  let C:Nat→Int→Int:=λS v=>@ite _ (v∈V) (Classical.propDecidable _) ((rows.getD S []).getD (V.idxOf v) 0) 0
  have hC:∀S {v},v∈V→C S v=(rows.getD S []).getD (V.idxOf v) 0:=λS v hv=>if_pos hv
  have aip:Low bk L ts.length (λi=>ts.getD i 0) C:=by
   refine⟨λa ha=>by have:=(hM.arc a ha).2.2.2.1;show 0≤a.cU;omega,λi hi=>?_,λS h0 hS a ha=>?_,λS P R hS hP hR h0 ho v=>?_⟩
   ·have hm:ts.getD i 0∈V:=ht _ (by rw[List.getD_eq_getElem?_getD,List.getElem?_eq_getElem hi];exact List.getElem_mem hi);rw[hC _ hm];exact(h.row (2 ^ i) (Nat.two_pow_pos i) (Nat.pow_lt_pow_right (by omega) hi)).one i hi rfl
   ·obtain⟨a1,a2,a3,a4,_⟩:=hM.arc a ha;have hD:=h.row S h0 hS;have:=hD.hop _ _ (hix a1) (hix a2) (by rw[a3];omega);rw[a3]at this;show C S a.Hop.aD≤a.cU+C S a.Hop.To;rw[hC _ a1,hC _ a2];exact this
   ·have hD:=h.row S (Nat.lt_of_lt_of_le hP (by rw[←ho];exact Nat.left_le_or)) hS;by_cases hv:v∈V
    ·rw[hC _ hv,hC _ hv,hC _ hv];exact hD.part P R hP hR h0 ho _ (hix hv)
    ·simp only[C];rw[if_neg hv,if_neg hv,if_neg hv];omega
  have:=aip.le K.length K (Nat.le_refl _) hK (2 ^ ts.length-1) (by omega) (by omega) root (zV.2 hc)
  rwa [hC _ hr]at this
 ·intro hf;obtain⟨_,H,h2,h3⟩:=(h.row (2 ^ ts.length-1) (by omega) (by omega)).s.ok _ (hix hr) hf;rw[nC hr]at h2;exact⟨H,h2.sub,zV.1 h2.cov,h3⟩
end tab
end
section
variable {x:Int}
theorem adm{g:af}(hv:Vt g){y:Int}(hx:x∈ids g)(hy:y∈ids g):(vG g x y).2=true↔Con bk (dS g) x y:=by
 unfold vG;simp only;rw[ajW hv hx hy];constructor
 ·intro h;obtain⟨k,hk⟩:=Option.isSome_iff_exists.1 h;exact agC hv (gR.1 hk).1
 ·intro h;obtain⟨m,hm⟩:=apQ hv h;obtain⟨k,hk,_⟩:=apO (rV hv) hm;rw[hk];rfl
variable {hs:List aC}
theorem al2{Hs:List ai}(hp:hs.Perm (Hs.map (·.Hop))){root:Int}(h:Con bk Hs root x):Rch root hs x:=by
 have:∀{y x:Int},Con bk Hs y x→Rch root hs y→Rch root hs x:=λ{y x} h=>by
  induction h with
  |refl v=>exact id
  |step a ha _ ih=>exact λhr=>ih (Rch.step a.Hop (hp.mem_iff.2 (List.mem_map.2 ⟨a,ha,rfl⟩)) hr)
 exact this h .root
theorem aa1{g:af}(hv:Vt g){a:ai}(ha:a∈dS g):a.Hop.aD∈ids g∧a.Hop.To∈ids g:=by
 obtain⟨k,hk,h⟩:=nA.1 ha;have:=hv.ends k hk;rcases h with rfl|rfl
 ·exact⟨iM.2 this.1,iM.2 this.2⟩
 ·exact⟨iM.2 this.2,iM.2 this.1⟩
theorem rX{g:af}(hv:Vt g)(hx:x∈ids g):1≤x∧x≤99:=by
 obtain⟨r,hr,rfl⟩:=List.mem_map.1 hx;exact hv.idr r hr
variable {aq:List ai}{c:Int}{ts:List Int}
theorem al3{g:af}(hv:Vt g)(hsub:∀a∈aq,a∈dS g){root:Int}(hr:root∈ids g)(h:pM aq root ts hs c):Vr (aQ.mk root hs):=by
 obtain⟨⟨Hs,hO,hc,hp⟩,aiK⟩:=h
 have hm:∀h∈hs,∃a∈Hs,a.Hop=h:=λh hh=>by
  obtain⟨a,ha,e⟩:=List.mem_map.1 (hp.mem_iff.1 hh);exact⟨a,ha,e⟩
 have hdup:Hs.Pairwise λa b=>a.Hop.To≠b.Hop.To:=by
  have hnd:Hs.Pairwise λa b=>a≠b:=hO.nodup;exact hnd.imp_of_mem λ{a b} ha hb hab e=>hab (hO.dst ha hb e)
 refine⟨rX hv hr,λh hh=>?_,aiK.imp λ{a b} h=>?_,?_,λh hh=>?_,λh hh=>?_⟩
 ·obtain⟨a,ha,rfl⟩:=hm h hh;have:=aa1 hv (hsub a (hO.sub a ha));exact⟨rX hv this.1,rX hv this.2⟩
 ·rw[gh,gh]at h;simp only[cR]at h;simp only[ltH,Bool.or_eq_true,Bool.and_eq_true,decide_eq_true_eq];omega
 ·have h2:(Hs.map (·.Hop)).Pairwise λa b=>a.To≠b.To:=List.pairwise_map.2 hdup;exact(hp.pairwise_iff λ{a b} h=>Ne.symm h).2 h2
 ·obtain⟨a,ha,rfl⟩:=hm h hh;exact hO.root ha
 ·obtain⟨a,ha,rfl⟩:=hm h hh;exact al2 hp (hO.rch ha)
theorem afk{root:Int}(h:pM aq root ts hs c){t:Int}(ht:t∈ts):t=root∨∃x∈hs,x.To=t:=by
 obtain⟨⟨Hs,hO,hc,hp⟩,aiK⟩:=h;rcases acY (hO.cov t ht)with h|⟨e,he,h1,_⟩
 ·exact .inl h.symm
 ·exact .inr ⟨e.Hop,hp.mem_iff.2 (List.mem_map.2 ⟨e,he,rfl⟩),h1⟩
theorem pS{A:Type}[DecidableEq A]{a b:List A}(h:a.Nodup)(hs:∀x∈a,x∈b):a.length≤b.length:=by
 induction a generalizing b with
 |nil=>simp
 |cons x a ih=>
  rw[List.nodup_cons]at h;have hx:=hs x (by simp);have:=ih (b:=b.erase x) h.2 λy hy=>(List.mem_erase_of_ne (λe=>h.1 (by rw[←e];exact hy))).2 (hs y (by simp[hy]));rw[List.length_erase_of_mem hx]at this;have:=List.length_pos_of_mem hx;simp only[List.length_cons];omega
theorem y7(hA:iZ aq){root:Int}(h:pM aq root ts hs c):hs.length≤1000:=by
 obtain⟨⟨Hs,hO,hc,hp⟩,aiK⟩:=h;have h1:Hs.length≤aq.length:=pS hO.nodup hO.sub;have h2:=hp.length_eq;have h3:=hA.len;rw[List.length_map]at h2;omega
end
section
theorem aiL{a b:Nat}(ha:a<2 ^ 60)(hb:b<2 ^ 60):eZ .xor .i64 (a:Int) (b:Int)=((a ^^^ b:Nat):Int):=by
 have h1:(a ^^^ b)<2 ^ 60:=Nat.xor_lt_two_pow ha hb;show w64 (((BitVec.ofInt 64 (a:Int) ^^^ BitVec.ofInt 64 (b:Int)).toNat:Nat):Int)=_;rw[BitVec.ofInt_natCast,BitVec.ofInt_natCast,BitVec.toNat_xor,BitVec.toNat_ofNat,BitVec.toNat_ofNat,Nat.mod_eq_of_lt (by omega),Nat.mod_eq_of_lt (by omega)];exact cM (by omega) (by omega)
variable {P S:Nat}
theorem aiM(h:P &&& S=P):P &&& (S ^^^ P)=0∧P ||| (S ^^^ P)=S:=by
 have hb:∀i,(P.testBit i&&S.testBit i)=P.testBit i:=λi=>by rw[←Nat.testBit_and,h]
 constructor
 ·apply Nat.eq_of_testBit_eq;intro i;have:=hb i;rw[Nat.testBit_and,Nat.testBit_xor,Nat.zero_testBit]
  revert this
  cases P.testBit i<;>cases S.testBit i<;>simp
 ·apply Nat.eq_of_testBit_eq;intro i;have:=hb i;rw[Nat.testBit_or,Nat.testBit_xor]
  revert this
  cases P.testBit i<;>cases S.testBit i<;>simp
theorem aiN{R:Nat}(h0:P &&& R=0)(h:P ||| R=S):R=S ^^^ P∧P &&& S=P:=by
 have hz:∀i,(P.testBit i&&R.testBit i)=false:=λi=>by rw[←Nat.testBit_and,h0,Nat.zero_testBit]
 have ho:∀i,(P.testBit i||R.testBit i)=S.testBit i:=λi=>by rw[←Nat.testBit_or,h]
 constructor
 ·apply Nat.eq_of_testBit_eq;intro i;have h1:=hz i;rw[Nat.testBit_xor,←ho i]
  revert h1
  cases P.testBit i<;>cases R.testBit i<;>simp
 ·apply Nat.eq_of_testBit_eq;intro i;rw[Nat.testBit_and,←ho i];cases P.testBit i<;>simp
theorem apV{R:Nat}(hP:P<2 ^ 60)(hR:R<2 ^ 60)(h:P &&& R=0):P+R=P ||| R:=by
 have h1:=BitVec.add_eq_or_of_and_eq_zero (BitVec.ofNat 64 P) (BitVec.ofNat 64 R) (by
  apply BitVec.eq_of_toNat_eq;rw[BitVec.toNat_and,BitVec.toNat_ofNat,BitVec.toNat_ofNat,Nat.mod_eq_of_lt (by omega),Nat.mod_eq_of_lt (by omega),h];rfl)
 have h2:=congrArg BitVec.toNat h1;have h3:(P ||| R)<2 ^ 60:=Nat.or_lt_two_pow hP hR;rw[BitVec.toNat_add,BitVec.toNat_or,BitVec.toNat_ofNat,BitVec.toNat_ofNat,Nat.mod_eq_of_lt (a:=P) (by omega),Nat.mod_eq_of_lt (a:=R) (by omega),Nat.mod_eq_of_lt (by omega)]at h2;exact h2
theorem y8{R:Nat}(h0:P &&& R=0)(h:P ||| R=S)(hP:0<P):R<S:=oN (by rw[Nat.and_comm];exact h0) (by rw[Nat.or_comm];exact h) hP
variable {i:Nat}{α:Type}
theorem elD(d:α){l:List α}(h:i<l.length):elO l (i:Int)=some (l.getD i d):=by
 apply bn;rw[List.getD_eq_getElem?_getD,List.getElem?_eq_getElem h];rfl
theorem iN(d:α){l:List α}(hi:i<l.length)(x:α)(v:Nat):(l.set i x).getD v d=if v=i then x else l.getD v d:=by
 rw[List.getD_eq_getElem?_getD,List.getD_eq_getElem?_getD,List.getElem?_set];by_cases h:v=i
 ·subst h;simp[hi]
 ·rw[if_neg h,if_neg λe=>h e.symm]
theorem aiO(d:α){l:List α}(hi:i<l.length):l.set i (l.getD i d)=l:=by
 rw[List.getD_eq_getElem?_getD,List.getElem?_eq_getElem hi];exact List.set_getElem_self hi
section tab
variable {V:List Int}{L:List ai}{cs:List (List Int)}{ts:List Int}
theorem vH.congr{rows ajX:List (List Int)}{S:Nat}{b:List Int}(h:vH V L cs ts rows S b)(he:∀P,P<S→ajX.getD P []=rows.getD P []):vH V L cs ts ajX S b:=by
 refine⟨h.s,h.one,h.hop,λP R hP hR h0 ho v hv=>?_⟩;have h1:=oN h0 ho hR;have h2:=y8 h0 ho hP;rw[he P h1,he R h2];exact h.part P R hP hR h0 ho v hv
structure Way(V:List Int)(L:List ai)(ts:List Int)(rows:List (List Int))(S:Nat)(j:Nat)(p:Nat→Nat→Prop)(b:List Int):Prop where
 len:b.length=V.length
 z:S=0→∀v,v<V.length→b.getD v 0=0
 s:0<S→pR V L ts S b
 one:∀i,i<j→i<ts.length→S=2 ^ i→b.getD (V.idxOf (ts.getD i 0)) 0≤0
 part:∀P v,p P v→0<P→P<S→P &&& S=P→v<V.length→b.getD v 0≤(rows.getD P []).getD v 0+(rows.getD (S ^^^ P) []).getD v 0
theorem Way.down{rows:List (List Int)}{S j:Nat}{p:Nat→Nat→Prop}{b:List Int}(h:Way V L ts rows S j p b)(hS:0<S){u:Nat}{c:Int}(hu:u<V.length)(hle:c≤b.getD u 0)(hR:pR V L ts S (b.set u c)):Way V L ts rows S j p (b.set u c):=by
 have hub:u<b.length:=by rw[h.len];exact hu
 have hle2:∀v,(b.set u c).getD v 0≤b.getD v 0:=λv=>by
  rw[rN hub];split
  ·rename_i e;subst e;exact hle
  ·exact Int.le_refl _
 exact⟨hR.len,λh0=>by omega,λ_=>hR,λi h1 h2 h3=>Int.le_trans (hle2 _) (h.one i h1 h2 h3),λP v h1 h2 h3 h4 h5=>Int.le_trans (hle2 _) (h.part P v h1 h2 h3 h4 h5)⟩
theorem aiP(hM:aaZ V L cs)(ht:∀t∈ts,t∈V)(hk:ts.length≤6){root:Int}(hr:root∈V):
  Ok (mF cs (V.idxOf root:Int) (ts.map λx=>(V.idxOf x:Int))) (λc=>(ts=[]→c=0)∧(0<ts.length→(∀K,(∀a∈K,a∈L)→(∀t,t∈ts→Con bk K root t)→c≤dw bk K)∧(c<FAR→∃H,(∀a∈H,a∈L)∧(∀t,t∈ts→Con bk H root t)∧dw bk H=c))):=by
 have hFAR:FAR=1099511627776:=rfl;have hcl:=hM.len;have hV:=hM.le;have hn0:0<V.length:=List.length_pos_of_mem hr;have hix:∀{x},x∈V→V.idxOf x<V.length:=λhx=>List.idxOf_lt_length_of_mem hx;have hpow:2 ^ ts.length≤64:=Nat.le_trans (Nat.pow_le_pow_right (by omega) hk) (by decide);have asP:1≤2 ^ ts.length:=Nat.one_le_two_pow;generalize hN:2 ^ ts.length=N at hpow asP
 have sh:∀i:Nat,i≤6→IntKind.wrap .i64 ((1:Int)*2 ^ min (IntKind.wrap .u64 ((i:Nat):Int)).toNat 64)=((2 ^ i:Nat):Int):=λi hi=>by
  have hp:2 ^ i≤2 ^ 6:=Nat.pow_le_pow_right (by omega) hi;rw[wrap_u64 (by omega) (by omega),Int.toNat_natCast,Nat.min_eq_left (by omega),Int.one_mul];have e:((2:Int) ^ i)=((2 ^ i:Nat):Int):=by simp
  rw[e];generalize 2 ^ i=z at hp ⊢;exact cM (by omega) (by omega)
 unfold mF;rw[List.length_map,sh _ hk,hN,hcl];refine Ok.chk (by rw[wrap_u64 (by omega) (by omega)];simp) (Ok.chk (by simp;omega) (Ok.chk (by simp;omega) ?_));have fk:(List.replicate ((N:Nat):Int).toNat []:List (List Int)).length=N:=by simp
 rw[fk];refine Ok.jf (λi (m:List (List Int))=>m.length=N∧(∀S:Nat,0<S→(S:Int)<i→vH V L cs ts m S (m.getD S []))∧((0:Int)<i→(m.getD 0 []).length=V.length∧∀v,v<V.length→(m.getD 0 []).getD v 0=0)) 0 (N:Int) ?_ ?_ _ 0 _ (by simp) (by omega) (by omega) ⟨fk,λS h1 h2=>by omega,λh=>by omega⟩
 ·
  intro i m Z hi0 hiN hI hZ;obtain⟨hml,hrows,hz0⟩:=hI;obtain⟨S,rfl⟩:=Int.eq_ofNat_of_zero_le hi0;have hSN:S<N:=by omega
  have hSm:S<m.length:=by omega
  have hSmi:∀b:List Int,S<(m.set S b).length:=λb=>by rw[List.length_set];exact hSm
  have eS:∀b:List Int,elO (m.set S b) (S:Int)=some b:=λb=>by rw[elD [] (hSmi b),iN [] hSm,if_pos rfl]
  have eP:∀(b:List Int) (P:Nat),P<S→elO (m.set S b) (P:Int)=some (m.getD P []):=λb P hP=>by rw[elD [] (by rw[List.length_set];omega),iN [] hSm,if_neg (by omega)]
  have sS:∀b b':List Int,List.set (m.set S b) S b'=m.set S b':=λb b'=>List.set_set ..
  have hrowlen:∀P:Nat,P<S→(m.getD P []).length=V.length:=λP hP=>by
   rcases Nat.eq_zero_or_pos P with h0|h0
   ·subst h0;exact(hz0 (by omega)).1
   ·exact(hrows P h0 (by omega)).s.len
  refine Ok.chk (by simp;omega) ?_;rw[elD [] hSm,aM,Int.toNat_natCast,Int.toNat_natCast,eS,aM,List.length_replicate];refine Ok.chk (by simp;omega) ?_;refine Ok.jf (λj (m2:List (List Int))=>∃b:List Int,m2=m.set S b∧b.length=V.length∧∀v:Nat,(v:Int)<j→b.getD v 0=if S=0 then 0 else FAR) 0 (V.length:Int) ?_ ?_ _ 0 _ (by simp) (by omega) (by omega) ⟨_,rfl,by simp,λv hv=>by omega⟩
  ·rintro j m2 Z2 hj0 hjn ⟨b,rfl,hbl,hb⟩ hZ2;obtain⟨u,rfl⟩:=Int.eq_ofNat_of_zero_le hj0;have hub:u<b.length:=by omega
   refine Ok.jn (λm3=>∃b:List Int,m3=m.set S b∧b.length=V.length∧∀v:Nat,(v:Int)<(u:Int)+1→b.getD v 0=if S=0 then 0 else FAR) (λm3 h3=>hZ2 m3 h3) λJ hJ=>?_;rw[eS,aM,elD 0 hub,aM,Int.toNat_natCast,sS]
   have dH:∀(b':List Int) (x:Int),b'.length=V.length→(∀v:Nat,v<u→b'.getD v 0=b.getD v 0)→x=(if S=0 then 0 else FAR)→∀v:Nat,(v:Int)<(u:Int)+1→(b'.set u x).getD v 0=if S=0 then 0 else FAR:=λb' x h1 h2 hx v hv=>by
    rw[rN (by omega)];split
    ·exact hx
    ·rw[h2 v (by omega)];exact hb v (by omega)
   refine Ok.cs (λhc=>?_) λhc=>?_
   ·have hS0:S=0:=by have:=of_decide_eq_true hc;omega
    rw[eS,aM,elD 0 (by rw[List.length_set];exact hub),aM,sS];exact hJ _ ⟨_,rfl,by simpa using hbl,dH _ 0 (by simpa using hbl) (λv hv=>by rw[rN hub,if_neg (by omega)]) (by rw[if_pos hS0])⟩
   ·have hS0:¬S=0:=by have:=of_decide_eq_false hc;omega
    exact hJ _ ⟨_,rfl,by simpa using hbl,dH b _ hbl (λ_ _=>rfl) (by rw[if_neg hS0])⟩
  ·rintro j m2 hj0 hjn ⟨b,rfl,hbl,hb⟩;have hj:=hjn (by omega);subst hj;have hb0:∀v,v<V.length→b.getD v 0=if S=0 then 0 else FAR:=λv hv=>hb v (by omega)
   have fL:(ts.map λx=>(V.idxOf x:Int)).length=ts.length:=List.length_map ..;refine Ok.qm (L:=ts.map λx=>(V.idxOf x:Int)) (λp (m4:List (List Int))=>∃b,m4=m.set S b∧Way V L ts m S p.length (λ_ _=>False) b) ?_ _ ⟨b,rfl,hbl,λh0 v hv=>by rw[hb0 v hv,if_pos h0],λh0=>⟨hbl,λv hv=>by rw[hb0 v hv,if_neg (by omega)];omega,λv hv hlt=>by rw[hb0 v hv,if_neg (by omega)]at hlt;omega⟩,λi hi=>by simp at hi,λP v hp=>hp.elim⟩ ?_
   ·rintro p x r m4 Z3 hL ⟨b,rfl,hW⟩ hZ3;have hx:(ts.map λx=>(V.idxOf x:Int))[p.length]?=some x:=by rw[hL];simp
    rw[List.getElem?_map]at hx;obtain⟨t,ht1,rfl⟩:=Option.map_eq_some_iff.1 hx;have hpt:=(List.getElem?_eq_some_iff.1 ht1).1;have htV:=ht t (List.mem_of_getElem? ht1);have htd:ts.getD p.length 0=t:=by rw[List.getD_eq_getElem?_getD,ht1];rfl
    have hu:=hix htV;refine Ok.jn (λm5=>∃b,m5=m.set S b∧Way V L ts m S (p.length+1) (λ_ _=>False) b) (λm5 h=>hZ3 m5 (by simpa using h)) λJ hJ=>?_;refine Ok.chk (by rw[wrap_u64 (by omega) (by omega)];simp) ?_;rw[sh p.length (by omega)];refine Ok.cs (λhc=>?_) λhc=>?_
    ·have hSp:S=2 ^ p.length:=by have:=of_decide_eq_true hc;omega
     have hS:0<S:=by rw[hSp];exact Nat.two_pow_pos _
     rw[eS,aM,elD 0 (by rw[hW.len];exact hu),aM,Int.toNat_natCast,sS];have hf:=(uj b).1;have hT:=Trk.one (N:=bk) (L:=L) (k:=ts.length) (ts:=λi=>ts.getD i 0) p.length hpt;simp only[htd]at hT;rw[←hSp]at hT;have hR:=(hW.s hS).put hu (Int.le_refl 0) (by decide) (.inl (by omega)) ⟨[],by rw[nC htV];exact hT,rfl⟩;have hW2:=hW.down hS hu ((hW.s hS).bd _ hu).1 hR;refine hJ _ ⟨_,rfl,hW2.len,hW2.z,hW2.s,λi hi h1 h2=>?_,hW2.part⟩;by_cases hip:i=p.length
     ·subst hip;rw[htd,rN (by rw[hW.len];exact hu),if_pos rfl];exact Int.le_refl _
     ·exact hW2.one i (by omega) h1 h2
    ·have hSp:¬S=2 ^ p.length:=by have:=of_decide_eq_false hc;omega
     refine hJ _ ⟨b,rfl,hW.len,hW.z,hW.s,λi hi h1 h2=>?_,hW.part⟩;by_cases hip:i=p.length
     ·subst hip;exact absurd h2 hSp
     ·exact hW.one i (by omega) h1 h2
   ·rintro m4 ⟨b,rfl,hW⟩;rw[fL]at hW;refine Ok.whl (λsg:Int×List (List Int)=>∃(v:Nat) (b:List Int),sg=((v:Int),m.set S b)∧v≤V.length∧Way V L ts m S ts.length (λ_ w=>w<v) b) (λsg=>V.length-sg.1.toNat) ⟨0,b,rfl,Nat.zero_le _,hW.len,hW.z,hW.s,hW.one,λP v h=>by omega⟩ (by simp only;omega) ?_;rintro⟨v1,m6⟩ Z4 ⟨v,b,heq,hvn,hW⟩ hZ4;simp only[Prod.mk.injEq]at heq;obtain⟨rfl,rfl⟩:=heq;refine Ok.cs (λhc=>?_) λhc=>?_
    ·simp only[Bool.and_eq_true,decide_eq_true_eq]at hc;have hS:0<S:=by omega
     have hv:v<V.length:=by omega
     have hnx:∀P:Nat,0<P→P≤S→eZ .and .i64 (w64 ((P:Int)-1)) (S:Int)=(((P-1) &&& S:Nat):Int):=λP h1 h2=>by
      rw[cM (by omega) (by omega),show((P:Int)-1)=((P-1:Nat):Int)by omega,vr (by omega) (by omega)]
     rw[hnx S hS (Nat.le_refl _)];refine Ok.whl (λsg:Int×List (List Int)=>∃(P:Nat) (b:List Int),sg=((P:Int),m.set S b)∧P &&& S=P∧P<S∧Way V L ts m S ts.length (λQ w=>w<v∨w=v∧P<Q) b) (λsg=>sg.1.toNat) ⟨(S-1) &&& S,b,rfl,s6 (a:=S-1) (S:=S) 0,Nat.lt_of_le_of_lt Nat.and_le_left (by omega),hW.len,hW.z,hW.s,hW.one,λQ w h h1 h2 h3 h4=>?_⟩ (by simp only[Int.toNat_natCast];have:(S-1) &&& S≤S-1:=Nat.and_le_left;omega) ?_
     ·rcases h with h|⟨_,h⟩
      ·exact hW.part Q w h h1 h2 h3 h4
      ·have:=vt S S Q (Nat.and_self _) h3 h2;omega
     ·rintro⟨p1,m7⟩ Z5 ⟨P,b,heq,hPS,hPlt,hW⟩ hZ5;simp only[Prod.mk.injEq]at heq;obtain⟨rfl,rfl⟩:=heq;refine Ok.cs (λhc2=>?_) λhc2=>?_
      ·have hP:0<P:=by have:=of_decide_eq_true hc2;omega
       obtain⟨x1,x2⟩:=aiM hPS;have ail:S ^^^ P<S:=y8 x1 x2 hP;have hR:0<S ^^^ P:=by
        rcases Nat.eq_zero_or_pos (S ^^^ P)with h|h
        ·rw[h]at x2;simp at x2;omega
        ·exact h
       have hDP:=hrows P hP (by omega);have hDR:=hrows (S ^^^ P) hR (by omega);have apv:P+(S ^^^ P)=S:=by rw[apV (by omega) (by omega) x1,x2]
       have hvb:v<b.length:=by rw[hW.len];exact hv
       have bP:=hDP.s.bd v hv;have bR:=hDR.s.bd v hv;have bb:=(hW.s hS).bd v hv;rw[eS,aM,elD 0 hvb,aM,eP b P hPlt,aM,elD 0 (by rw[hDP.s.len];exact hv),aM,aiL (by omega) (by omega),eP b _ ail,aM,elD 0 (by rw[hDR.s.len];exact hv),aM,Int.toNat_natCast,sS,hnx P hP (by omega),cM (by omega) (by omega)];have hle1:(P-1) &&& S≤P-1:=Nat.and_le_left
       have key:∀b',Way V L ts m S ts.length (λQ w=>w<v∨w=v∧P<Q) b'→b'.getD v 0≤(m.getD P []).getD v 0+(m.getD (S ^^^ P) []).getD v 0→Ok (Z5 (((((P-1) &&& S:Nat)):Int),m.set S b')) (λc=>(ts=[]→c=0)∧(0<ts.length→(∀K,(∀a∈K,a∈L)→(∀t,t∈ts→Con bk K root t)→c≤dw bk K)∧(c<FAR→∃H,(∀a∈H,a∈L)∧(∀t,t∈ts→Con bk H root t)∧dw bk H=c))):=λb' hW' hle=>by
        refine hZ5 _ ⟨(P-1) &&& S,b',rfl,s6 (a:=P-1) (S:=S) 0,by omega,hW'.len,hW'.z,hW'.s,hW'.one,λQ w h h1 h2 h3 h4=>?_⟩ (by simp only[Int.toNat_natCast];omega);rcases h with h|⟨rfl,h⟩
        ·exact hW'.part Q w (.inl h) h1 h2 h3 h4
        ·by_cases hPQ:P<Q
         ·exact hW'.part Q w (.inr ⟨rfl,hPQ⟩) h1 h2 h3 h4
         ·have hQP:Q=P:=by
           rcases Nat.lt_or_ge Q P with h5|h5
           ·have:=vt P S Q hPS h3 h5;omega
           ·omega
          subst hQP;exact hle
       split
       ·rename_i hlt;have hR':=(hW.s hS).join hV hDP hDR x1 x2 apv hv hlt;exact key _ (hW.down hS hv (by omega) hR') (by rw[rN hvb,if_pos rfl];exact Int.le_refl _)
       ·rename_i hlt;rw[aiO 0 hvb];exact key _ hW (by omega)
      ·have hP:P=0:=by have:=of_decide_eq_false hc2;omega
       subst hP;rw[cM (by omega) (by omega)];refine hZ4 _ ⟨v+1,b,by simp,hv,hW.len,hW.z,hW.s,hW.one,λQ w h h1 h2 h3 h4=>hW.part Q w ?_ h1 h2 h3 h4⟩ (by simp only;omega);rcases Nat.lt_or_eq_of_le (Nat.le_of_lt_succ h)with h|h
       ·exact .inl h
       ·exact .inr ⟨h,h1⟩
    ·
     have hall:Way V L ts m S ts.length (λ_ _=>True) b:=by
      refine⟨hW.len,hW.z,hW.s,hW.one,λQ w _ h1 h2 h3 h4=>hW.part Q w ?_ h1 h2 h3 h4⟩;simp only[Bool.and_eq_false_iff,decide_eq_false_iff_not]at hc;omega
     refine Ok.whl (λsg:Bool×List (List Int)=>∃b:List Int,sg.2=m.set S b∧Way V L ts m S ts.length (λ_ _=>True) b∧(S=0→sg.1=false)∧(sg.1=false→0<S→∀u w,u<V.length→w<V.length→0<ent cs u w→b.getD u 0≤ent cs u w+b.getD w 0)) (λsg=>2*(mP (sg.2.getD S [])).toNat+(bif sg.1 then 1 else 0)) ⟨b,rfl,hall,λh=>by simp[h],λh h0=>by simp at h;omega⟩ ?_ ?_
     ·have h1:=(aa0 b).2;have h2:=hall.len;simp only;rw[iN [] hSm,if_pos rfl];have:(bif decide ((0:Int)<(S:Int))then 1 else 0)≤1:=by cases decide ((0:Int)<(S:Int))<;>simp
      omega
     rintro⟨ch,m8⟩ Z6 ⟨b,heq,hW,hz1,apW⟩ hZ6;simp only at heq hz1 apW;subst heq;cases ch with
     |false=>
      refine hZ _ ⟨by rw[List.length_set];exact hml,λS' h1 h2=>?_,λ_=>?_⟩
      ·by_cases hS':S'=S
       ·subst hS';rw[iN [] hSm,if_pos rfl];refine⟨hW.s h1,λi hi he=>hW.one i hi hi he,apW rfl h1,λP R hP hR h0 ho w hw=>?_⟩;obtain⟨e1,e2⟩:=aiN h0 ho;have hPl:=oN h0 ho hR;have hRl:=y8 h0 ho hP;rw[iN [] hSm,iN [] hSm,if_neg (by omega),if_neg (by omega),e1];exact hW.part P w trivial hP hPl e2 hw
       ·rw[iN [] hSm,if_neg hS'];exact(hrows S' h1 (by omega)).congr λP hP=>by rw[iN [] hSm,if_neg (by omega)]
      ·rw[iN [] hSm];split
       ·rename_i h0;exact⟨hW.len,hW.z h0.symm⟩
       ·exact hz0 (by omega)
     |true=>
      have hS:0<S:=by
       rcases Nat.eq_zero_or_pos S with h|h
       ·exact absurd (hz1 h) (by simp)
       ·exact h
      refine Ok.qm (L:=cs) (λp (sg:Bool×List (List Int))=>∃b':List Int,sg.2=m.set S b'∧Way V L ts m S ts.length (λ_ _=>True) b'∧mP b'≤mP b∧(sg.1=true→mP b'<mP b)∧(sg.1=false→b'=b∧∀u,u<p.length→∀w,w<V.length→0<ent cs u w→b.getD u 0≤ent cs u w+b.getD w 0)) ?_ _ ⟨b,rfl,hW,Int.le_refl _,λh=>(by cases h),λ_=>⟨rfl,λu hu=>by simp at hu⟩⟩ ?_
      ·rintro p e7 r ⟨ch,m9⟩ Z7 hL ⟨b1,heq,hW1,hcp,hcT,hcF⟩ hZ7;simp only at heq hcp hcT hcF;subst heq;have hpu:p.length<V.length:=by have:=congrArg List.length hL;simp at this;omega
       have he7:cs.getD p.length []=e7:=by rw[hL,List.getD_eq_getElem?_getD];simp
       have h7l:e7.length=V.length:=by rw[←he7];exact hM.row _ hpu
       refine Ok.qm (L:=cs) (λq (sg:Bool×List (List Int))=>∃b':List Int,sg.2=m.set S b'∧Way V L ts m S ts.length (λ_ _=>True) b'∧mP b'≤mP b∧(sg.1=true→mP b'<mP b)∧(sg.1=false→b'=b∧(∀u,u<p.length→∀w,w<V.length→0<ent cs u w→b.getD u 0≤ent cs u w+b.getD w 0)∧∀w,w<q.length→0<ent cs p.length w→b.getD p.length 0≤ent cs p.length w+b.getD w 0)) ?_ _ ⟨b1,rfl,hW1,hcp,hcT,λh=>⟨(hcF h).1,(hcF h).2,λw hw=>by simp at hw⟩⟩ ?_
       ·rintro q e8 r2 ⟨ch,m10⟩ Z8 hL2 ⟨b2,heq,hW2,hcp,hcT,hcF⟩ hZ8;simp only at heq hcp hcT hcF;subst heq;have hqu:q.length<V.length:=by have:=congrArg List.length hL2;simp at this;omega
        have hen:e7.getD q.length 0=ent cs p.length q.length:=by rw[←he7];rfl
        have hpb:p.length<b2.length:=by rw[hW2.len];exact hpu
        have hqb:q.length<b2.length:=by rw[hW2.len];exact hqu
        have hRS:=hW2.s hS;have bp:=hRS.bd _ hpu;have bq:=hRS.bd _ hqu;refine Ok.jn (λsg:Bool×List (List Int)=>∃b':List Int,sg.2=m.set S b'∧Way V L ts m S ts.length (λ_ _=>True) b'∧mP b'≤mP b∧(sg.1=true→mP b'<mP b)∧(sg.1=false→b'=b∧(∀u,u<p.length→∀w,w<V.length→0<ent cs u w→b.getD u 0≤ent cs u w+b.getD w 0)∧∀w,w<q.length+1→0<ent cs p.length w→b.getD p.length 0≤ent cs p.length w+b.getD w 0)) (λsg h=>hZ8 sg (by simpa using h)) λJ hJ=>?_;refine Ok.jn (λc=>c=decide (0<ent cs p.length q.length∧ent cs p.length q.length+b2.getD q.length 0<b2.getD p.length 0)) (λc hc=>?_) λJ4 hJ4=>?_
        ·subst hc;refine Ok.cs (λh=>?_) λh=>?_
         ·obtain⟨h1,h2⟩:=of_decide_eq_true h;have h3:=hM.le1 hpu hqu h1;rw[eS,aM,elD 0 (by rw[h7l];exact hqu),aM,elD 0 hqb,aM,elD 0 hpb,aM,Int.toNat_natCast,sS,hen,cM (by omega) (by omega)];have hR':=hRS.step hM hpu hqu h1 h2;have hcs:=aiJ (by omega) hV hRS hpu (by omega) h2 hR';exact hJ _ ⟨_,rfl,hW2.down hS hpu (by omega) hR',by omega,λ_=>(by omega),λh=>(by cases h)⟩
         ·have h:=of_decide_eq_false h;refine hJ _ ⟨b2,rfl,hW2,hcp,hcT,λhf=>?_⟩;obtain⟨f1,f2,f3⟩:=hcF hf;refine⟨f1,f2,λw hw hpos=>?_⟩;by_cases hwq:w=q.length
          ·subst hwq;rw[f1]at h;omega
          ·exact f3 w (by omega) hpos
        ·rw[elD 0 (by rw[h7l];exact hqu),aM,hen];refine Ok.cs (λh=>?_) λh=>?_
         ·have h:=of_decide_eq_true h;have h3:=hM.le1 hpu hqu h;rw[eS,aM,elD 0 hqb,aM,elD 0 hpb,aM,cM (by omega) (by omega)];exact hJ4 _ (by simp[h])
         ·have h:=of_decide_eq_false h;exact hJ4 _ (by simp[h])
       ·rintro⟨ch,m10⟩ ⟨b2,heq,hW2,hcp,hcT,hcF⟩;refine hZ7 _ ⟨b2,heq,hW2,hcp,hcT,λhf=>?_⟩;obtain⟨f1,f2,f3⟩:=hcF hf;refine⟨f1,λu hu w hw hpos=>?_⟩;by_cases hup:u=p.length
        ·subst hup;exact f3 w (by rw[hcl];exact hw) hpos
        ·exact f2 u (by simp at hu;omega) w hw hpos
      ·rintro⟨ch,m9⟩ ⟨b1,heq,hW1,hcp,hcT,hcF⟩;simp only at heq hcp hcT hcF;subst heq;have r1:=(aa0 b).1;have r2:=(aa0 b1).1;refine hZ6 _ ⟨b1,rfl,hW1,λh=>by omega,λhf _ u w hu hw hpos=>?_⟩ ?_
       ·obtain⟨f1,f2⟩:=hcF hf;rw[f1];exact f2 u (by rw[hcl];exact hu) w hw hpos
       ·simp only;rw[iN [] hSm,iN [] hSm,if_pos rfl,if_pos rfl];cases ch with
        |true=>have:=hcT rfl;simp only[cond_true];omega
        |false=>have:=(hcF rfl).1;subst this;simp
 ·rintro i m hi0 hiN ⟨hml,hrows,hz0⟩;have hi:=hiN (by omega);subst hi;have hw:w64 ((m.length:Int)-1)=((N-1:Nat):Int):=by rw[cM (by omega) (by omega)];omega
  have hzl:=hz0 (by omega);have hlen:(m.getD (N-1) []).length=V.length:=by
   rcases Nat.eq_zero_or_pos (N-1)with h|h
   ·rw[h];exact hzl.1
   ·exact(hrows (N-1) h (by omega)).s.len
  rw[hw,elD [] (by omega),aM,elD 0 (by rw[hlen];exact hix hr),aM];refine Ok.s ⟨λh0=>?_,λh1=>?_⟩
  ·subst h0;have hN1:N=1:=by rw[←hN];rfl
   subst hN1;exact hzl.2 _ (hix hr)
  ·have hT:apT V L cs ts m (2 ^ ts.length):=⟨by omega,λS h2 h3=>hrows S h2 (by omega)⟩;have:=agG hM ht hT hr h1;rw[hN]at this;exact this
end tab
end
section
variable {c:Int}{m:List (List Int)}{u:Nat}
theorem aa2{n v:Nat}(hm:m.length=n)(hr:∀u,u<n→(m.getD u []).length=n)(hu:u<n)(hv:v<n)(u' v':Nat):ent (m.set u ((m.getD u []).set v c)) u' v'=if u'=u∧v'=v then c else ent m u' v':=by
 unfold ent;rw[iN [] (by omega)];by_cases h:u'=u
 ·subst h;rw[if_pos rfl,iN 0 (by rw[hr _ hu];exact hv)];by_cases h2:v'=v
  ·rw[if_pos h2,if_pos ⟨rfl,h2⟩]
  ·rw[if_neg h2,if_neg λh=>h2 h.2]
 ·rw[if_neg h,if_neg λh2=>h h2.1]
theorem y9{n v:Nat}(hm:m.length=n)(hr:∀u,u<n→(m.getD u []).length=n)(hu:u<n):∀w,w<n→((m.set u ((m.getD u []).set v c)).getD w []).length=n:=λw hw=>by
 rw[iN [] (by omega)];split
 ·rw[List.length_set];exact hr u hu
 ·exact hr w hw
structure apX(g:af)(r:List (List Int)×Vec 100):Prop where
 mat:aaZ (ids g) (dS g) r.1
 at_:∀x∈ids g,elO r.2.l x=some ((ids g).idxOf x:Int)
theorem xx{V:List Int}{x y:Int}(hx:x∈V)(hy:y∈V)(h:V.idxOf x=V.idxOf y):x=y:=by
 rw[←nC hx,←nC hy,h]
theorem agH{g:af}(hv:Vt g)(h0:0<g.ay.length):Ok (mE g) (apX g):=by
 have hnr:=hv.nr;have hil:(ids g).length=g.ay.length:=by simp[ids]
 have hnd:(ids g).Nodup:=(apH hv).imp λh=>Int.ne_of_lt h;unfold mE;refine Ok.qm (L:=g.ay) (λ(p:List aW) (m:Vec 100)=>∀(i:Nat) (x:Int),(p.map (·.ID))[i]?=some x→m.l[x.toNat]?=some (i:Int)) ?_ _ (λi x h=>by simp at h) ?_
 ·rintro p x r m Z hL hI hZ;have hx:x∈g.ay:=by rw[hL];simp
  have hid:=hv.idr x hx;have hml:=m.h;have hel:elO m.l x.ID=some (m.l.getD x.ID.toNat 0):=by
   have h:=elD 0 (l:=m.l) (i:=x.ID.toNat) (by omega)
   rwa [Int.toNat_of_nonneg (by omega)]at h
  rw[hel,aM];refine hZ _ λi y hy=>?_;show(m.l.set x.ID.toNat (p.length:Int))[y.toNat]?=_;rw[List.map_append,List.getElem?_append]at hy;split at hy
  ·rename_i hi;have hyp:y∈p.map (·.ID):=List.mem_of_getElem? hy;obtain⟨z,hz,rfl⟩:=List.mem_map.1 hyp;have hzx:z.ID≠x.ID:=by
    have:=hv.asc;rw[hL,List.pairwise_append]at this;have:=this.2.2 z hz x (by simp);omega
   have hzr:=hv.idr z (by rw[hL];simp[hz]);rw[List.getElem?_set_ne (by omega)];exact hI i _ hy
  ·rename_i hi;simp only[List.length_map,List.map_cons,List.map_nil]at hy hi;rw[List.getElem?_singleton]at hy;split at hy
   ·rename_i h1;cases hy;rw[List.getElem?_set_self (by omega),show p.length=i by omega]
   ·cases hy
 ·intro m hat
  have acr:∀x∈ids g,elO m.l x=some ((ids g).idxOf x:Int):=λx hx=>by
   have h1:=hat ((ids g).idxOf x) x (by
    have:=List.idxOf_lt_length_of_mem hx;show(ids g)[(ids g).idxOf x]?=some x;rw[List.getElem?_eq_getElem this];exact congrArg some (List.getElem_idxOf _))
   have:=rX hv hx;unfold elO;rw[if_pos (by omega)];exact h1
  refine Ok.chk (by simp;omega) (Ok.chk (by simp;omega) ?_);have fk:(List.replicate ((g.ay.length:Nat):Int).toNat []:List (List Int)).length=(ids g).length:=by simp[hil]
  rw[fk];refine Ok.jf (λj (m2:List (List Int))=>m2.length=(ids g).length∧∀u:Nat,(u:Int)<j→m2.getD u []=List.replicate (ids g).length 0) 0 ((ids g).length:Int) ?_ ?_ _ 0 _ (by simp) (by omega) (by omega) ⟨fk,λu hu=>by omega⟩
  ·rintro j m2 Z2 hj0 hjn ⟨hl,hI⟩ hZ2;obtain⟨u,rfl⟩:=Int.eq_ofNat_of_zero_le hj0;refine Ok.chk (by simp;omega) ?_;rw[elD [] (by omega),aM];refine hZ2 _ ⟨by rw[List.length_set];exact hl,λw hw=>?_⟩;rw[Int.toNat_natCast,Int.toNat_natCast,iN [] (by omega)];split
   ·rw[hil]
   ·exact hI w (by omega)
  ·rintro j m2 hj0 hjn ⟨hl,hI⟩;have hj:=hjn (by omega);subst hj;have hix:∀{x},x∈ids g→(ids g).idxOf x<(ids g).length:=λhx=>List.idxOf_lt_length_of_mem hx;refine Ok.qm (L:=g.Links) (λp (m3:List (List Int))=>m3.length=(ids g).length∧(∀u,u<(ids g).length→(m3.getD u []).length=(ids g).length)∧(∀a∈p.flatMap nS,ent m3 ((ids g).idxOf a.Hop.aD) ((ids g).idxOf a.Hop.To)=a.cU)∧∀u v,u<(ids g).length→v<(ids g).length→0<ent m3 u v→ai.mk (aC.mk ((ids g).getD u 0) ((ids g).getD v 0)) (ent m3 u v)∈p.flatMap nS) ?_ _ ⟨hl,λu hu=>by rw[hI u (by omega)];simp,λa ha=>by simp at ha,λu v hu hv' h=>?_⟩ ?_
   ·rintro p l r m3 Z3 hL ⟨hl3,hr3,hA,hB⟩ hZ3;have hl:l∈g.Links:=by rw[hL];simp
    have ajY:=hv.ends l hl;have hAm:=iM.2 ajY.1;have hBm:=iM.2 ajY.2;have hlt:=hv.lt l hl;have hne:(ids g).idxOf l.A≠(ids g).idxOf l.B:=λe=>by have:=xx hAm hBm e;omega
    have iA:=hix hAm;have iB:=hix hBm;rw[acr _ hAm,acr _ hBm,aM,elD [] (by omega),aM,aM,elD [] (by omega),aM,elD 0 (by rw[hr3 _ iA];exact iB),aM,Int.toNat_natCast,Int.toNat_natCast];have hr4:=y9 (v:=(ids g).idxOf l.B) (c:=l.ec) hl3 hr3 iA;have hl4:(m3.set ((ids g).idxOf l.A) ((m3.getD ((ids g).idxOf l.A) []).set ((ids g).idxOf l.B) l.ec)).length=(ids g).length:=by rw[List.length_set];exact hl3
    have he4:=aa2 (v:=(ids g).idxOf l.B) (c:=l.ec) hl3 hr3 iA iB;generalize m3.set ((ids g).idxOf l.A) ((m3.getD ((ids g).idxOf l.A) []).set ((ids g).idxOf l.B) l.ec)=m4 at hr4 hl4 he4 ⊢;rw[elD [] (by omega),aM,elD 0 (by rw[hr4 _ iB];exact iA),aM];have hr5:=y9 (v:=(ids g).idxOf l.A) (c:=l.eB) hl4 hr4 iB;have he5:=aa2 (v:=(ids g).idxOf l.A) (c:=l.eB) hl4 hr4 iB iA;have hpw:=aaU hv;unfold dS at hpw;rw[hL,List.flatMap_append,List.flatMap_cons,List.pairwise_append]at hpw;have hnew:∀a∈p.flatMap nS,∀b∈nS l,a.Hop≠b.Hop:=λa ha b hb=>hpw.2.2 a ha b (List.mem_append.2 (.inl hb));have hin:∀a∈p.flatMap nS,a.Hop.aD∈ids g∧a.Hop.To∈ids g:=λa ha=>aa1 hv (by unfold dS;rw[hL,List.flatMap_append];exact List.mem_append.2 (.inl ha));have e1:ai.mk (aC.mk l.A l.B) l.ec∈nS l:=by simp[nS]
    have e2:ai.mk (aC.mk l.B l.A) l.eB∈nS l:=by simp[nS]
    refine hZ3 _ ⟨by rw[List.length_set];exact hl4,hr5,λa ha=>?_,λu v hu hv' hpos=>?_⟩
    ·rw[he5,he4];rw[List.flatMap_append,List.flatMap_singleton]at ha;rcases List.mem_append.1 ha with ha|ha
     ·obtain⟨q1,q2⟩:=hin a ha;rw[if_neg,if_neg]
      ·exact hA a ha
      ·rintro⟨h1,h2⟩;refine hnew a ha _ e1 ?_;have g1:=xx q1 hAm h1;have g2:=xx q2 hBm h2;cases hq:a.Hop with
       |mk f t=>rw[hq]at g1 g2;simp only at g1 g2;rw[g1,g2]
      ·rintro⟨h1,h2⟩;refine hnew a ha _ e2 ?_;have g1:=xx q1 hBm h1;have g2:=xx q2 hAm h2;cases hq:a.Hop with
       |mk f t=>rw[hq]at g1 g2;simp only at g1 g2;rw[g1,g2]
     ·simp only[nS,List.mem_cons,List.not_mem_nil,or_false]at ha;rcases ha with rfl|rfl
      ·rw[if_neg (λh=>hne h.1),if_pos ⟨rfl,rfl⟩]
      ·rw[if_pos ⟨rfl,rfl⟩]
    ·rw[he5,he4]at hpos ⊢;rw[List.flatMap_append,List.flatMap_singleton];by_cases c1:u=(ids g).idxOf l.B∧v=(ids g).idxOf l.A
     ·obtain⟨rfl,rfl⟩:=c1;rw[if_pos ⟨rfl,rfl⟩,nC hAm,nC hBm];exact List.mem_append.2 (.inr e2)
     ·rw[if_neg c1]at hpos ⊢;by_cases c2:u=(ids g).idxOf l.A∧v=(ids g).idxOf l.B
      ·obtain⟨rfl,rfl⟩:=c2;rw[if_pos ⟨rfl,rfl⟩,nC hAm,nC hBm];exact List.mem_append.2 (.inr e1)
      ·rw[if_neg c2]at hpos ⊢;exact List.mem_append.2 (.inl (hB u v hu hv' hpos))
   ·exfalso;unfold ent at h;rw[hI u (by omega),List.getD_eq_getElem?_getD,List.getElem?_replicate,if_pos hv']at h;simp at h
   ·rintro m3 ⟨hl3,hr3,hA,hB⟩;refine Ok.s ⟨⟨hnd,by omega,hl3,hr3,λa ha=>?_,hB⟩,acr⟩;have:=aa1 hv ha;have hc:=(ug hv).cost a ha;exact⟨this.1,this.2,hA a ha,hc.1,hc.2⟩
theorem agI(t:af)(root:Int)(rs:List Int)(hl:rs.length≤100000):mC t root rs=some (afi t root rs):=by
 unfold mC afi;rw[ta,aM];by_cases h:iL t=0
 ·rw[decide_eq_true h,abz _ (by omega),aM];simp only[Bool.not_true,cond_false];cases gy (λa b:Int=>decide (a<b)) rs with
  |false=>rfl
  |true=>
   simp only[Bool.not_true,cond_false];rw[oO (by simp;omega),aM]
   refine(eY (λr=>!hasB t r) (some 4) (λj x Z s=>by
    rw[uf t x,aM,decide_eq_true h,Bool.true_and]) _ _ _).trans ?_
   show(bif (root::rs).any (λr=>!hasB t r)then some 4 else some 0)=_;cases(root::rs).any (λr=>!hasB t r)<;>rfl
 ·rw[decide_eq_false h];rfl
variable {ts:List Int}
theorem abQ{g:af}(hv:Vt g){root:Int}(hr:root∈ids g)(ht:∀x∈ts,x∈ids g):Ok (jk g root ts) (λb=>b=true↔∀t,t∈ts→Con bk (dS g) root t):=by
 unfold jk;rw[eY (λr=>!(vG g root r).2) (some false) (λj x Z s=>by rw[agF,aM])];cases h:ts.any λr=>!(vG g root r).2 with
 |true=>
  refine⟨false,rfl,⟨λh=>(by cases h),λhc=>?_⟩⟩;obtain⟨t,h1,h2⟩:=List.any_eq_true.1 h;rw[(adm hv hr (ht t h1)).2 (hc t h1)]at h2;cases h2
 |false=>
  refine⟨true,rfl,⟨λ_ t h1=>?_,λ_=>rfl⟩⟩;have:=any_false.1 h t h1;exact(adm hv hr (ht t h1)).1 (by simpa using this)
theorem adn{g:af}(hv:Vt g){root:Int}(hr:root∈ids g)(h1:ts.Pairwise (·<·))(h2:∀x∈ts,x∈ids g)(hl:ts.length≤6):
  Ok (iJ g root ts) (λr=>((∀t,t∈ts→Con bk (dS g) root t)→r.2=0∧∀H,Opt bk (dS g) (λt=>t∈ts) root H→r.1=dw bk H)∧((¬∀t,t∈ts→Con bk (dS g) root t)→r=(0,9))):=by
 have hn:0<g.ay.length:=by
  have:=List.length_pos_of_mem hr;simpa [ids]using this
 unfold iJ;rw[agI _ _ _ (by omega),aM,apM hv hr h1 h2,decide_eq_true rfl,decide_eq_false (by omega)];simp only[Bool.not_true,cond_false];refine Ok.bnd (abQ hv hr h2) λb hb=>?_;cases b with
 |false=>
  have hb:¬∀t,t∈ts→Con bk (dS g) root t:=λh=>by have:=hb.2 h;cases this
  exact⟨(0,9),rfl,λh=>absurd h hb,λ_=>rfl⟩
 |true=>
  have hb:=hb.1 rfl;refine Ok.bnd (agH hv hn) λr hr2=>?_;refine Ok.qm (L:=ts) (λp (l:List Int)=>l=p.map λx=>((ids g).idxOf x:Int)) ?_ _ rfl ?_
  ·rintro p x q l Z hL rfl hZ;have hxt:x∈ts:=by rw[hL];simp
   have hlen:=congrArg List.length hL;simp at hlen;rw[hr2.at_ x (h2 x hxt),aM,oO (by simp;omega),aM];exact hZ _ (by simp)
  ·rintro l rfl;rw[hr2.at_ root hr,aM];refine Ok.bnd (aiP hr2.mat h2 hl hr) λc hc=>?_;refine⟨(c,0),rfl,λ_=>⟨rfl,λH hO=>?_⟩,λh=>absurd hb h⟩;by_cases h0:ts=[]
   ·subst h0;rw[hc.1 rfl];have h3:=hO.min [] (λa ha=>by cases ha) (λt ht=>by cases ht);have h4:=tE (N:=bk) (H:=H) λa ha=>by have:=hO.pos a (hO.sub a ha);omega
    have e:dw bk ([]:List ai)=0:=rfl;show(0:Int)=_;omega
   ·have h1:0<ts.length:=List.length_pos_iff.2 h0;obtain⟨c1,c2⟩:=hc.2 h1;have h3:=c1 H hO.sub hO.cov;have hb1:=hO.min _ (λa ha=>ha) hb;have hb2:=(kP (ug hv).cost).2;have hb3:=(ug hv).len;have hFAR:FAR=1099511627776:=rfl;obtain⟨K,k1,k2,k3⟩:=c2 (by omega);have h4:=hO.min K k1 k2;show c=_;omega
end
section
abbrev apY(l:List Int):Bool:=gy (λa b=>decide (a<b)) l
noncomputable def ckS(t:af)(x:aQ)(rs:List Int):Int:=
 bif !decide (iL t=0)then 1 else bif !decide (ckT x=0)then ckT x else bif (x.bx::rs).any (λr=>!hasB t r)then 4 else bif x.Links.any (λh=>!(fU t h.aD h.To).2)then 4 else bif !apY rs then 25 else bif rs.any (λr=>!decide (r∈qY x))then 9 else 0
theorem ado(t:af)(x:aQ)(rs:List Int)(hx:x.Links.length≤90000)(hr:rs.length≤90000):iy t x rs=some (ckS t x rs):=by
 unfold iy ckS;rw[xm,aM];by_cases h:iL t=0
 rotate_left
 ·rw[decide_eq_false h];rfl
 have hv:=nw.1 h;have hnr:=hv.nr;have hnl:=hv.nl;rw[decide_eq_true h,vV _ (by omega),aM];simp only[Bool.not_true,cond_false];cases hc:!decide (ckT x=0)with
 |true=>rfl
 |false=>
  simp only[cond_false];rw[oO (by simp;omega),aM]
  refine(eY (λr=>!hasB t r) (some 4) (λj r Z s=>by
   rw[ad1 t r (by omega),aM,decide_eq_true h,Bool.true_and]) _ _ _).trans ?_
  show(bif (x.bx::rs).any (λr=>!hasB t r)then some 4 else _)=_;cases(x.bx::rs).any (λr=>!hasB t r)with
  |true=>rfl
  |false=>
   simp only[cond_false]
   refine(eY (λe:aC=>!(fU t e.aD e.To).2) (some 4) (λj r Z s=>by
    rw[aiy t _ _ (by omega),if_pos h,aM]) _ _ _).trans ?_
   cases x.Links.any (λe=>!(fU t e.aD e.To).2)with
   |true=>rfl
   |false=>
    simp only[cond_false];rw[apL _ (by omega),aM];cases !gy (λa b:Int=>decide (a<b)) rs with
    |true=>rfl
    |false=>
     simp only[cond_false];rw[adI _ (by omega),aM];refine(eY (λr=>!decide (r∈qY x)) (some 9) (λj r Z s=>by rw[alQ,aM]) _ _ _).trans ?_;cases rs.any (λr=>!decide (r∈qY x))<;>rfl
theorem z8(t:af)(x:aQ)(rs:List Int)(hx:x.Links.length≤90000)(hr:rs.length≤90000):jj t x rs=some (ckS t x rs):=by
 unfold jj ckS;rw[ta,aM];by_cases h:iL t=0
 rotate_left
 ·rw[decide_eq_false h];rfl
 rw[decide_eq_true h,tc _ (by omega),aM];simp only[Bool.not_true,cond_false];cases hc:!decide (ckT x=0)with
 |true=>rfl
 |false=>
  simp only[cond_false];rw[uf,aM,decide_eq_true h,Bool.true_and,List.any_cons];cases hasB t x.bx with
  |false=>rfl
  |true=>
  simp only[Bool.not_true,cond_false,Bool.false_or]
  refine(eY (λr=>!hasB t r) (some 4) (λj r Z s=>by
   rw[uf t r,aM,decide_eq_true h,Bool.true_and]) _ _ _).trans ?_
  cases rs.any (λr=>!hasB t r)with
  |true=>rfl
  |false=>
   simp only[cond_false]
   refine(eY (λe:aC=>!(fU t e.aD e.To).2) (some 4) (λj r Z s=>by
    rw[ac8 t,if_pos h,aM]) _ _ _).trans ?_
   cases x.Links.any (λe=>!(fU t e.aD e.To).2)with
   |true=>rfl
   |false=>
    simp only[cond_false];rw[abz _ (by omega),aM];show(bif !gy (λa b:Int=>decide (a<b)) rs then _ else _)=_;cases !gy (λa b:Int=>decide (a<b)) rs with
    |true=>rfl
    |false=>
     simp only[cond_false];rw[abP _ (by omega),aM];refine(eY (λr=>!decide (r∈qY x)) (some 9) (λj r Z s=>by rw[aiz,aM]) _ _ _).trans ?_;cases rs.any (λr=>!decide (r∈qY x))<;>rfl
def ab3(t:af)(l:List aC):Int:=l.foldl (λn h=>w64 (n+(fU t h.aD h.To).1)) 0
noncomputable def aa3(t:af)(x:aQ):Int×Int:=bif !decide (ckS t x []=0)then(0,ckS t x [])else(ab3 t x.Links,0)
theorem aa4{α σ β:Type}{B:Int→α→(σ→Option β)→σ→Option β}{K:σ→Option β}(f:σ→α→σ)(hB:∀j x Z s,B j x Z s=Z (f s x)):∀(l:List α) (j:Nat) (s:σ),bz l j B K s=K (l.foldl f s)
 |[],_,_=>rfl
 |x::r,j,s=>by rw[bz,hB,aa4 f hB r (j+1)];rfl
variable {rs:List Int}
theorem apZ{t:af}{x:aQ}(h:ckS t x rs=0):iL t=0:=by
 by_cases h1:iL t=0
 ·exact h1
 ·unfold ckS at h;rw[decide_eq_false h1]at h;cases h
theorem aaa(t:af)(x:aQ)(hx:x.Links.length≤90000):jH t x=some (aa3 t x):=by
 unfold jH aa3;rw[z8 t x [] hx (by simp),aM];by_cases h:ckS t x []=0
 ·rw[decide_eq_true h];have hc:=apZ h;simp only[Bool.not_true,cond_false];refine(aa4 (λn (h:aC)=>w64 (n+(fU t h.aD h.To).1)) (λj e Z s=>by rw[ac8 t,if_pos hc,aM]) _ _ _).trans ?_;rfl
 ·rw[decide_eq_false h];rfl
theorem abE{g:af}(hv:Vt g){a:ai}(ha:a∈dS g):fU g a.Hop.aD a.Hop.To=(a.cU,true):=by
 obtain⟨l,hl,h⟩:=nA.1 ha;have hlt:=hv.lt l hl;have hne:l.A≠l.B:=by omega
 rcases h with rfl|rfl
 ·show fU g l.A l.B=_;rw[ny hv hl (by simp[fK])];simp[j9]
 ·show fU g l.B l.A=_;rw[ny hv hl (by simp[fK])];simp[j9,hne]
theorem adp{l:List Int}(h:l.Pairwise (·<·)):apY l=true:=jO (h.imp λh=>by simpa using h)
variable {aq:List ai}{c:Int}{hs:List aC}{ts:List Int}
theorem aea{g:af}(hv:Vt g)(hsub:∀a∈aq,a∈dS g){root:Int}(hr:root∈ids g)(h:pM aq root ts hs c)(h1:rs.Pairwise (·<·))(h2:∀x∈rs,x∈ids g)(h3:∀x∈rs,x∈ts):ckS g (aQ.mk root hs) rs=0:=by
 have hV:=al3 hv hsub hr h;unfold ckS;rw[decide_eq_true (nw.2 hv),decide_eq_true (ade.2 hV)];simp only[Bool.not_true,cond_false]
 rw[any_false.2 (λx hx=>by
  rcases List.mem_cons.1 hx with rfl|hx
  ·rw[iM.1 hr];rfl
  ·rw[iM.1 (h2 x hx)];rfl),any_false.2 (λx hx=>by
  obtain⟨⟨Hs,hO,_,hp⟩,_⟩:=h;obtain⟨a,ha,rfl⟩:=List.mem_map.1 (hp.mem_iff.1 hx);rw[abE hv (hsub a (hO.sub a ha))];rfl),adp h1]
 simp only[Bool.not_true,cond_false]
 rw[any_false.2 (λx hx=>by
  have:x∈qY (aQ.mk root hs):=(alW hV).2 (afk h (h3 x hx));rw[decide_eq_true this];rfl)]
 rfl
theorem aiQ{A:Type}{f:A→Int}{a b:List A}(h:a.Perm b):(a.map f).sum=(b.map f).sum:=by
 induction h with
 |nil=>rfl
 |cons x _ ih=>simp only[List.map_cons,List.sum_cons,ih]
 |swap x y l=>simp only[List.map_cons,List.sum_cons];omega
 |trans _ _ h1 h2=>rw[h1,h2]
theorem adq{A:Type}{f:A→Int}:∀(l:List A) (s:Int),(∀x∈l,0≤f x∧f x≤1000)→0≤s→s+1000*(l.length:Int)≤1000000000→l.foldl (λn h=>w64 (n+f h)) s=s+(l.map f).sum
 |[],s,_,_,_=>by simp
 |x::r,s,h,h0,hb=>by
  simp only[List.length_cons]at hb;have hx:=h x (by simp);rw[List.foldl_cons,cM (by omega) (by omega),adq r _ (λy hy=>h y (by simp[hy])) (by omega) (by omega),List.map_cons,List.sum_cons];omega
theorem agJ{g:af}(hv:Vt g)(hA:iZ aq)(hsub:∀a∈aq,a∈dS g){root:Int}(h:pM aq root ts hs c):ab3 g hs=c:=by
 have hl:=y7 hA h;obtain⟨⟨Hs,hO,rfl,hp⟩,_⟩:=h;have hpr:∀a∈Hs,(fU g a.Hop.aD a.Hop.To).1=a.cU:=λa ha=>by rw[abE hv (hsub a (hO.sub a ha))]
 unfold ab3;refine(adq (f:=λh:aC=>(fU g h.aD h.To).1) hs 0 (λx hx=>?_) (by omega) (by omega)).trans ?_
 ·obtain⟨a,ha,rfl⟩:=List.mem_map.1 (hp.mem_iff.1 hx);rw[hpr a ha];have:=hA.cost a (hO.sub a ha);omega
 ·rw[aiQ hp,List.map_map,Int.zero_add];unfold dw;congr 1;exact List.map_congr_left λa ha=>hpr a ha
end
section
variable {l:List Int}
theorem ap0(hl:l.length≤1000000)(ha:l.Pairwise (·<·))(x:Int):∃i,eC l x=some (i,decide (x∈l)):=by
 have e:bsT (λy:Int=>eD y x) l=decide (x∈l):=by
  rw[Bool.eq_iff_iff,decide_eq_true_eq,aaP (oA (ha.imp λ{a b} h=>?_))]
  ·constructor
   ·rintro⟨y,hy,h⟩;rw[jA]at h;subst h;exact hy
   ·intro h;exact⟨x,h,jA.2 rfl⟩
  ·unfold eD;repeat' split
   all_goals omega
 refine⟨(bsR (λy:Int=>eD y x) l:Int),?_⟩;rw[←e];unfold eC
 have less:∀y:Int,lQ y x=some (decide (y<x)):=λy=>by
  unfold lQ fD;simp[aM]
 refine aaO l (λy:Int=>eD y x) hl λi j Z hj=>?_;by_cases hij:i<j
 ·rw[dif_pos hij];simp only[aaN (i:=i) (j:=j) (by omega),qJ (show(i+j) / 2<l.length by omega),aM,less,mH];rw[if_pos (by omega),cM (by omega) (by omega)];by_cases h:el l ((i+j) / 2:Nat)<x
  ·rw[if_pos h,if_pos (xS.2 h)];rfl
  ·rw[if_neg h,if_neg (λhh=>h (xS.1 hh))]
 ·rw[dif_neg hij];simp only[mH];rw[if_neg (by omega)];by_cases hi:i<l.length
  ·rw[if_pos (by omega),qJ hi];simp only[aM,iY];by_cases h:el l i=x
   ·rw[if_pos h,decide_eq_true hi,decide_eq_true (jA.2 h)];rfl
   ·rw[if_neg h,decide_eq_true hi,decide_eq_false (λhh=>h (jA.1 hh))];simp
  ·rw[if_neg (by omega)];simp[hi]
abbrev RM:=List (aC×Int)
instance hopDec:DecidableEq aC:=λa b=>decidable_of_iff (bt a b=true) (fE a b)
theorem xy(l:RM)(n m:aC)(v:Int):bX bt (eo bt l n v) m=if m=n then some v else bX bt l m:=by
 induction l with
 |nil=>
  simp only[eo,bX,List.find?_cons,List.find?_nil];cases h:bt m n with
  |true=>rw[if_pos ((fE _ _).1 h)];rfl
  |false=>rw[if_neg (λe=>by rw[(fE m n).2 e]at h;cases h)]
 |cons p r ih=>
  simp only[eo];cases hn:bt n p.1 with
  |true=>
   have hn:=(fE _ _).1 hn;simp only[cond_true,bX,List.find?_cons];rw[←hn];cases h:bt m n with
   |true=>rw[if_pos ((fE _ _).1 h)];rfl
   |false=>rw[if_neg (λe=>by rw[(fE m n).2 e]at h;cases h)]
  |false=>
   simp only[cond_false,bX,List.find?_cons];cases h:bt m p.1 with
   |true=>
    have h:=(fE _ _).1 h;rw[if_neg (λe=>by rw[←e,h,(fE p.1 p.1).2 rfl]at hn;cases hn)]
   |false=>
    have:=ih;simp only[bX]at this;exact this
theorem ajZ{l:RM}(hd:(l.map (·.1)).Nodup){n:aC}{v:Int}(h:(n,v)∈l):bX bt l n=some v:=by
 induction l with
 |nil=>cases h
 |cons p r ih=>
  simp only[List.map_cons,List.nodup_cons]at hd;simp only[bX,List.find?_cons];rcases List.mem_cons.1 h with rfl|h
  ·rw[(fE n n).2 rfl];rfl
  ·cases he:bt n p.1 with
   |true=>rw[(fE _ _).1 he]at h;exact(hd.1 (List.mem_map.2 ⟨_,h,rfl⟩)).elim
   |false=>exact ih hd.2 h
theorem aeb{l:RM}{n:aC}:bX bt l n=none↔n∉l.map (·.1):=by
 simp only[bX,Option.map_eq_none_iff,List.find?_eq_none,List.mem_map];constructor
 ·rintro h ⟨p,hp,rfl⟩;exact h p hp ((fE _ _).2 rfl)
 ·intro h p hp he;exact h ⟨p,hp,((fE _ _).1 he).symm⟩
theorem aec(l:RM)(n:aC)(v:Int):(eo bt l n v).map (·.1)=if n∈l.map (·.1)then l.map (·.1)else l.map (·.1)++[n]:=by
 induction l with
 |nil=>simp[eo]
 |cons p r ih=>
  simp only[eo];cases hn:bt n p.1 with
  |true=>
   have hn:=(fE _ _).1 hn;simp[hn]
  |false=>
   have hne:n≠p.1:=λe=>by rw[(fE n p.1).2 e]at hn;cases hn
   simp only[cond_false,List.map_cons,ih,List.mem_cons,hne,false_or];split<;>simp
theorem afl{l:RM}(h:(l.map (·.1)).Nodup)(n:aC)(v:Int):((eo bt l n v).map (·.1)).Nodup:=by
 rw[aec];split
 ·exact h
 ·rename_i hn;rw[List.nodup_append];exact⟨h,by simp,λa ha b hb=>by rw[List.mem_singleton]at hb;subst hb;exact λe=>hn (e▸ha)⟩
theorem agK{α σ:Type}{B:Int→α→(σ→Option Int)→σ→Option Int}{K:σ→Option Int}(p:α→Bool)(hB:∀j x Z s,B j x Z s=bif p x then some j else Z s)(hK:∀s,K s=some (-1)):∀(l:List α) (j:Nat) (s:σ),
  (bz l j B K s=some (-1)∧∀x∈l,p x=false)∨∃k,k<l.length∧bz l j B K s=some ((j+k:Nat):Int)∧(∀x∈l.take k,p x=false)∧∃x,l[k]?=some x∧p x=true
 |[],j,s=>.inl ⟨hK s,λx hx=>by cases hx⟩
 |x::r,j,s=>by
  simp only[bz,hB];cases hp:p x
  ·rcases agK p hB hK r (j+1) s with⟨h1,h2⟩|⟨k,h1,h2,h3,h4⟩
   ·refine .inl ⟨by simpa using h1,λy hy=>?_⟩;rcases List.mem_cons.1 hy with rfl|hy
    ·exact hp
    ·exact h2 y hy
   ·refine .inr ⟨k+1,by simpa using h1,by simp only[cond_false,h2];congr 2;omega,λy hy=>?_,by simpa using h4⟩;rw[List.take_succ_cons]at hy;rcases List.mem_cons.1 hy with rfl|hy
    ·exact hp
    ·exact h3 y hy
  ·exact .inr ⟨0,by simp,by simp,(λy hy=>by simp at hy),x,by simp,hp⟩
theorem al4(l:List ai)(hl:l.length≤1000000)(f:ai→Option Bool)(p:ai→Bool)(hf:∀x,f x=some (p x)):dy l f=some (l.filter λx=>!p x):=by
 unfold dy ei;rcases agK (B:=λ(j1:Int) (e1:ai) (Z1:Unit→Option Int) (sg:Unit)=>match sg with|()=>bnd (f e1) λ(az:Bool)=>bif az then some (j1:Int)else Z1 ()) (K:=λ(sg:Unit)=>match sg with|()=>some (-1:Int)) p (λj x Z s=>by simp only[hf,aM]) (λ_=>rfl) l 0 ()with⟨h1,h2⟩|⟨k,h1,h2,h3,x,h4,h5⟩
 ·rw[h1,aM,decide_eq_true rfl,cond_true,List.filter_eq_self.2 λx hx=>by rw[h2 x hx];rfl]
 ·have hk:(l.take (k+1)).filter (λx=>!p x)=l.take k:=by
   rw[List.take_add_one,h4,List.filter_append,List.filter_eq_self.2 λx hx=>by rw[h3 x hx];rfl];simp[h5]
  rw[h2,aM,Nat.zero_add,decide_eq_false (by omega),cond_false]
  refine Ok.eq (Ok.whl (λsg:List ai×Int×Int=>∃i j:Nat,sg.2.1=i∧sg.2.2=j∧i<j∧j≤l.length∧sg.1.length=l.length∧sg.1.take i=(l.take j).filter (λx=>!p x)∧sg.1.drop j=l.drop j) (λsg=>l.length-sg.2.2.toNat)
   ⟨k,k+1,rfl,by simp only;rw[cM (by omega) (by omega)];rfl,by omega,by omega,rfl,hk.symm,rfl⟩ (by simp only;omega) ?_)
  rintro⟨vs,i,j⟩ Z ⟨i,j,rfl,rfl,hij,hjl,hlen,ht,hd⟩ hZ;simp only at hlen ht hd hZ ⊢;rw[hlen];by_cases hlt:j<l.length
  ·rw[decide_eq_true (by omega),cond_true];have hj:vs[j]?=some l[j]:=by
    have:=congrArg (·[0]?) hd;simpa [List.getElem?_drop,List.getElem?_eq_getElem hlt]using this
   have e1:elO vs (j:Int)=some l[j]:=by unfold elO;rw[if_pos (by omega),Int.toNat_natCast];exact hj
   have hjn:w64 ((j:Int)+1)=((j+1:Nat):Int):=by rw[cM (by omega) (by omega)];rfl
   have hdn:vs.drop (j+1)=l.drop (j+1):=by
    have:=congrArg (List.drop 1) hd;simpa [List.drop_drop,Nat.add_comm]using this
   have htn:l.take (j+1)=l.take j++[l[j]]:=by rw[List.take_add_one,List.getElem?_eq_getElem hlt];rfl
   simp only[jn,e1,aM,hf];cases hp:p l[j]with
   |true=>
    simp only[Bool.not_true,cond_false];refine hZ _ ⟨i,j+1,rfl,hjn,by omega,by omega,hlen,?_,hdn⟩ (by simp only[hjn];omega);rw[ht,htn,List.filter_append];simp[hp]
   |false=>
    simp only[Bool.not_false,cond_true];have e2:elO vs (i:Int)=some (vs[i]'(by omega)):=by unfold elO;rw[if_pos (by omega),Int.toNat_natCast];exact List.getElem?_eq_getElem (by omega)
    have e3:jU vs (i:Int) l[j]=some (vs.set i l[j]):=by obtain⟨m,g1,g2,_⟩:=ue (l:=vs) (i:=(i:Int)) (x:=l[j]) (by omega) (by omega);rw[g1,g2,Int.toNat_natCast]
    have hin:w64 ((i:Int)+1)=((i+1:Nat):Int):=by rw[cM (by omega) (by omega)];rfl
    simp only[e2,aM,e3];refine hZ _ ⟨i+1,j+1,hin,hjn,by omega,by omega,by simp[hlen],?_,?_⟩ (by simp only[hjn];omega)
    ·rw[List.take_add_one,List.take_set_of_le (Nat.le_refl _),ht,htn,List.filter_append];simp[hp,List.getElem?_set,show i<vs.length by omega]
    ·rw[List.drop_set_of_lt (by omega)];exact hdn
  ·obtain rfl:j=l.length:=by omega
   rw[decide_eq_false (by omega),cond_false];refine Ok.chk (by simp;omega) ?_;rw[List.take_length]at ht;obtain⟨m,g1,g2,_⟩:=zX (l:=vs.take (i:Int).toNat++List.replicate (l.length-(i:Int).toNat) (ai.mk (aC.mk (0:Int) (0:Int)) (0:Int))) (a:=0) (b:=(i:Int)) (by simp;omega);rw[g1,aM];refine Ok.s ?_;rw[g2,Int.toNat_natCast,List.take_append_of_le_length (by simp;omega),List.take_take,Nat.min_self,ht];rfl
def eM(r:RM)(h:aC):Int:=(bX bt r h).getD 0
def gT(g:af)(r:RM)(n:Int):List ai:=(dS g).filter λa=>decide (n≤eM r a.Hop)
theorem zb{g:af}{r:RM}{n:Int}{a:ai}:a∈gT g r n↔a∈dS g∧n≤eM r a.Hop:=by simp[gT]
theorem aiR{a b:List ai}(h:∀x∈a,x∈b)(hl:a.length≤1000)(hb:iZ b):iZ a:=⟨λx hx=>hb.cost x (h x hx),λx hx=>hb.to x (h x hx),λx hx y hy=>hb.hop x (h x hx) y (h y hy),hl⟩
theorem xW{g:af}(hv:Vt g)(r:RM)(n:Int):iZ (gT g r n):=aiR (λ_ h=>(zb.1 h).1) (by have:=List.length_filter_le (λa:ai=>decide (n≤eM r a.Hop)) (dS g);have:=qp g;have:=hv.nl;unfold gT;omega) (ug hv)
theorem aj0{g:af}(hv:Vt g)(r:RM)(n:Int):∃m,fJ r g n=some m∧m.Perm (gT g r n):=by
 obtain⟨m,hm,hp⟩:=asN hv;have hl:=hp.length_eq;rw[qp]at hl;have:=hv.nl;unfold fJ;rw[hm,aM,al4 m (by omega) (λy0=>ij y0 r n) (λa=>decide (eM r a.Hop<n)) (λx=>rfl),aM];refine⟨_,rfl,?_⟩
 have e:(λx:ai=>!decide (eM r x.Hop<n))=λa=>decide (n≤eM r a.Hop):=by
  funext a;rw[Bool.eq_iff_iff];simp
 rw[e];exact hp.filter _
structure ReI(aq:List ai)(root:Int)(out:List Int)(m:List (Int×Bool)):Prop where
 nd:out.Nodup
 con:∀x∈out,Con bk aq root x
 root:root∈out
 map:∀x,(aT m x).getD false=decide (x∈out)
variable {H:List ai}{u:Int}
theorem uk{v:Int}(h:Con bk H v u):u=v∨∃a∈H,a.Hop.To=u:=by
 induction h with
 |refl v=>exact .inl rfl
 |step a ha _ ih=>
  rcases ih with h|h
  ·exact .inr ⟨a,ha,h.symm⟩
  ·exact .inr h
theorem aab{v:Int}(h:Con bk H v u)(hc:∀a∈H,a.Hop.aD∈l→a.Hop.To∈l)(hv:v∈l):u∈l:=by
 induction h with
 |refl v=>exact hv
 |step a ha _ ih=>exact ih (hc a ha hv)
variable {aq:List ai}
theorem agL{root:Int}{out:List Int}{m:List (Int×Bool)}(h:ReI aq root out m):out.length≤aq.length+1:=by
 have:=pS (b:=root::aq.map (·.Hop.To)) h.nd λx hx=>by
  rcases uk (h.con x hx)with rfl|⟨a,ha,rfl⟩
  ·simp
  ·exact List.mem_cons_of_mem _ (List.mem_map.2 ⟨a,ha,rfl⟩)
 simpa using this
theorem qj(hl:aq.length≤1000)(root:Int):Ok (kR aq root) λl=>l.Pairwise (·<·)∧∀x,x∈l↔Con bk aq root x:=by
 unfold kR;refine Ok.whl (λsg:List Int×Int×List (Int×Bool)=>ReI aq root sg.1 sg.2.2∧∃i:Nat,sg.2.1=i∧i≤sg.1.length∧∀k,k<i→∀a∈aq,sg.1[k]?=some a.Hop.aD→a.Hop.To∈sg.1) (λsg=>2000-sg.2.1.toNat) ?_ (by simp only;omega) ?_
 ·refine⟨⟨by simp,?_,by simp,λx=>?_⟩,0,rfl,by simp,λk hk=>by omega⟩
  ·intro x hx;rw[List.mem_singleton]at hx;subst hx;exact .refl _
  ·simp only[bG,aT,List.find?_cons,List.find?_nil,List.mem_singleton];by_cases h:x=root
   ·subst h;simp
   ·have:¬root=x:=λe=>h e.symm;simp[h,this]
 ·rintro⟨out,i,m⟩ Z ⟨hI,i,rfl,hi,hcl⟩ hZ;simp only at hI hi hcl hZ ⊢;have hlen:=agL hI;by_cases hlt:i<out.length
  ·rw[decide_eq_true (by omega),cond_true];refine Ok.qm (λpre (sg:List Int×List (Int×Bool))=>ReI aq root sg.1 sg.2∧out <+: sg.1∧∀a∈pre,out[i]?=some a.Hop.aD→a.Hop.To∈sg.1) ?_ _ ⟨hI,List.prefix_refl _,λk hk=>by cases hk⟩ ?_
   ·rintro pre a rest ⟨o,m⟩ Y hL ⟨h1,h2,h3⟩ hY;have ha:a∈aq:=by rw[hL];simp
    simp only at h1 h2 h3 hY ⊢;obtain⟨t,rfl⟩:=h2;have hoi:(out++t)[i]?=some out[i]:=by rw[List.getElem?_append_left hlt];exact List.getElem?_eq_getElem hlt
    have e1:elO (out++t) (i:Int)=some out[i]:=by unfold elO;rw[if_pos (by simp),Int.toNat_natCast];exact hoi
    have hmap:=h1.map a.Hop.To
    have hstep:∀o2:List Int,(∀x∈out++t,x∈o2)→(out[i]?=some a.Hop.aD→a.Hop.To∈o2)→∀b∈pre++[a],out[i]?=some b.Hop.aD→b.Hop.To∈o2:=λo2 hs hn b hb hf=>by
     rcases List.mem_append.1 hb with hb|hb
     ·exact hs _ (h3 b hb hf)
     ·rw[List.mem_singleton]at hb;subst hb
      exact hn hf
    simp only[jn,e1,aM];by_cases hf:a.Hop.aD=out[i]
    ·rw[decide_eq_true hf,cond_true,hmap];by_cases hin:a.Hop.To∈out++t
     ·rw[decide_eq_true hin];simp only[Bool.not_true,cond_false];exact hY _ ⟨h1,List.prefix_append _ _,hstep _ (λ_ h=>h) λ_=>hin⟩
     ·rw[decide_eq_false hin];simp only[Bool.not_false,cond_true];have:=agL h1;rw[oO (by simp only[List.length_cons,List.length_nil];omega),aM];refine hY _ ⟨⟨?_,?_,?_,λx=>?_⟩,by simp only[List.append_assoc];exact List.prefix_append _ _,hstep _ (λx hx=>List.mem_append_left _ hx) λ_=>by simp⟩
      ·rw[List.nodup_append];exact⟨h1.nd,by simp,λx hx y hy=>by rw[List.mem_singleton]at hy;subst hy;exact λe=>hin (e▸hx)⟩
      ·intro x hx;rcases List.mem_append.1 hx with hx|hx
       ·exact h1.con x hx
       ·rw[List.mem_singleton]at hx;subst hx
        have hc:=h1.con out[i] (List.mem_append_left _ (List.getElem_mem hlt));rw[←hf]at hc;exact hc.trans (Con.one (N:=bk) ha)
      ·exact List.mem_append_left _ h1.root
      ·have:=h1.map x;simp only[ada]at this ⊢;by_cases hx:x=a.Hop.To
       ·subst hx;simp
       ·rw[if_neg hx,this];simp[hx]
    ·rw[decide_eq_false hf,cond_false];simp only[cond_false];exact hY _ ⟨h1,List.prefix_append _ _,hstep _ (λ_ h=>h) λhe=>absurd (by rw[List.getElem?_eq_getElem hlt]at he;injection he with he;exact he.symm) hf⟩
   ·rintro⟨o,m⟩ ⟨h1,h2,h3⟩;simp only at h1 h2 h3 ⊢;have hi1:w64 ((i:Int)+1)=((i+1:Nat):Int):=by rw[cM (by omega) (by omega)];rfl
    have hle:=h2.length_le;refine hZ _ ⟨h1,i+1,hi1,by simp only;omega,λk hk a ha he=>?_⟩ (by simp only[hi1];omega);simp only at he ⊢;by_cases hki:k=i
    ·subst hki;exact h3 a ha (by rw[←he];obtain⟨t,rfl⟩:=h2;exact(List.getElem?_append_left hlt).symm)
    ·have hk2:k<i:=by omega
     refine h2.subset (hcl k hk2 a ha ?_);rw[←he];obtain⟨t,rfl⟩:=h2;exact(List.getElem?_append_left (by omega)).symm
  ·obtain rfl:i=out.length:=by omega
   rw[decide_eq_false (by omega),cond_false];refine Ok.chk (by simp;omega) (Ok.s ⟨ac6 hI.nd,λx=>?_⟩);rw[xq];refine⟨hI.con x,λh=>aab h (λa ha hf=>?_) hI.root⟩;obtain⟨k,hk⟩:=List.getElem?_of_mem hf;exact hcl k (List.getElem?_eq_some_iff.1 hk).1 a ha hk
end
section
structure DOk(g:af)(d:bf):Prop where
 root:d.bx∈ids g
 asc:d.bY.Pairwise (·<·)
 recv:∀x∈d.bY,x∈ids g
 len:d.bY.length≤6
 gP:1≤d.gb∧d.gb≤1000
variable {d:bf}
theorem agM{g:af}(hv:Vt g)(h:DOk g d):jJ g d=some 0:=by
 have hl:=h.len;have hr:=h.gP;have hnr:=hv.nr;unfold jJ;rw[decide_eq_false (by omega),cond_false]
 refine(nv (λa b:Int=>decide (a<b)) (some 25) (λj x y r q s Z hL hj=>by
  simp only[mj hL hj (by omega),aM];by_cases h:y<x
  ·have:¬x≤y:=by omega
   simp[h,this]
  ·have:x≤y:=by omega
   simp[h,this]) _).trans ?_
 rw[show gy (λa b:Int=>decide (a<b)) d.bY=true from adp h.asc,cond_true];show bnd (iD _ _) _=_;rw[oO (by simp;omega),aM]
 refine(eY (λr=>!hasB g r) (some 4) (λj x Z s=>by
  rw[ad1 g x (by omega),aM,decide_eq_true (nw.2 hv),Bool.true_and]) _ _ _).trans ?_
 rw[any_false.2 λx hx=>by
  rcases List.mem_append.1 hx with hx|hx
  ·rw[List.mem_singleton]at hx;subst hx;rw[iM.1 h.root];rfl
  ·rw[iM.1 (h.recv x hx)];rfl]
 simp only[cond_false];rw[decide_eq_false (by omega),decide_eq_false (by omega)];rfl
variable {ds:List bf}
theorem xz{g:af}(hv:Vt g)(h:∀d∈ds,DOk g d)(hl:ds.length≤12):gx g ds=some 0:=by
 unfold gx;rw[xm,aM,decide_eq_true (nw.2 hv),Bool.not_true,cond_false,decide_eq_false (by omega),cond_false];refine Ok.eq (Ok.forM (λ_ _=>True) (λj x s Z hj hx _ hZ=>?_) _ trivial λs _=>⟨0,rfl,rfl⟩);simp only[agM hv (h x hx),aM];exact hZ _ trivial
structure ja(g:af)(r:RM):Prop where
 nd:(r.map (·.1)).Nodup
 key:∀h,h∈r.map (·.1)↔∃a∈dS g,a.Hop=h
 val:∀h v,bX bt r h=some v→0≤v∧v≤1000
variable {r:RM}
theorem ja.rg{g:af}(h:ja g r)(x:aC):0≤eM r x∧eM r x≤1000:=by
 unfold eM;cases hg:bX bt r x with
 |none=>simp
 |some v=>exact h.val x v hg
theorem ja.some{g:af}{r:RM}(h:ja g r){a:ai}(ha:a∈dS g):(bX bt r a.Hop).isSome=true:=by
 cases hg:bX bt r a.Hop with
 |none=>exact absurd ((h.key _).2 ⟨a,ha,rfl⟩) (aeb.1 hg)
 |some v=>rfl
def whS(m:RM)(l:aU):RM:=eo bt (eo bt m (aC.mk l.A l.B) l.eE) (aC.mk l.B l.A) l.eE
def lU(g:af):RM:=g.Links.foldl whS []
structure WhI(ls:List aU)(m:RM):Prop where
 nd:(m.map (·.1)).Nodup
 get:∀h v,bX bt m h=some v→∃l∈ls,(h=aC.mk l.A l.B∨h=aC.mk l.B l.A)∧v=l.eE
 key:∀l∈ls,aC.mk l.A l.B∈m.map (·.1)∧aC.mk l.B l.A∈m.map (·.1)
theorem xA{l:RM}{n:aC}{v:Int}{h:aC}:h∈(eo bt l n v).map (·.1)↔h=n∨h∈l.map (·.1):=by
 rw[aec];split
 ·rename_i hn;exact⟨.inr,λhh=>hh.elim (λe=>e▸hn) id⟩
 ·rw[List.mem_append,List.mem_singleton,or_comm]
theorem agN:∀(ls pre:List aU) (m:RM),WhI pre m→WhI (pre++ls) (ls.foldl whS m)
 |[],pre,m,h=>by simpa using h
 |x::r,pre,m,h=>by
  have:WhI (pre++[x]) (whS m x):=by
   refine⟨afl (afl h.nd _ _) _ _,λk v hk=>?_,λl hl=>?_⟩
   ·unfold whS at hk;rw[xy,xy]at hk;split at hk
    ·rename_i e;cases hk
     exact⟨x,by simp,.inr e,rfl⟩
    ·split at hk
     ·rename_i e;cases hk
      exact⟨x,by simp,.inl e,rfl⟩
     ·obtain⟨l,h1,h2⟩:=h.get k v hk;exact⟨l,by simp[h1],h2⟩
   ·unfold whS;rw[xA,xA,xA,xA];rcases List.mem_append.1 hl with hl|hl
    ·exact⟨.inr (.inr (h.key l hl).1),.inr (.inr (h.key l hl).2)⟩
    ·rw[List.mem_singleton]at hl;subst hl
     exact⟨.inr (.inl rfl),.inl rfl⟩
  have:=agN r (pre++[x]) _ this;simpa using this
theorem agO(g:af):WhI g.Links (lU g):=by
 have:=agN g.Links [] [] ⟨by simp,λh v hk=>by simp[bX]at hk,λl hl=>by cases hl⟩;unfold lU;simpa using this
theorem abF(g:af):iK g=some (lU g):=by
 unfold iK;exact aa4 whS (λj x Z s=>rfl) _ _ _
theorem adr{g:af}(hv:Vt g):ja g (lU g):=by
 have hW:=agO g;refine⟨hW.nd,λh=>⟨λhk=>?_,?_⟩,λh v hk=>?_⟩
 ·obtain⟨p,hp,rfl⟩:=List.mem_map.1 hk;obtain⟨l,h1,h2,_⟩:=hW.get p.1 p.2 (ajZ hW.nd hp);rcases h2 with h2|h2
  ·exact⟨_,nA.2 ⟨l,h1,.inl rfl⟩,h2.symm⟩
  ·exact⟨_,nA.2 ⟨l,h1,.inr rfl⟩,h2.symm⟩
 ·rintro⟨a,ha,rfl⟩;obtain⟨l,hl,rfl|rfl⟩:=nA.1 ha
  ·exact(hW.key l hl).1
  ·exact(hW.key l hl).2
 ·obtain⟨l,h1,_,rfl⟩:=hW.get h v hk;have:=hv.okl l h1;simp only[nQ,Bool.or_eq_false_iff,decide_eq_false_iff_not]at this;omega
variable {hs:List aC}
theorem aiS{g:af}(hr:ja g r){root n:Int}(hn:1≤n∧n≤1000)(hd:hs.Nodup)(hs1:∀h∈hs,(∃a∈dS g,a.Hop=h)∧n≤eM r h):
  Ok (cI r (aQ.mk root hs) n) λp=>p.1=true∧ja g p.2∧∀h,eM p.2 h=eM r h-if h∈hs then n else 0:=by
 unfold cI;refine Ok.qm (λpre (sg:Bool×RM)=>sg.1=true∧ja g sg.2∧∀h,eM sg.2 h=eM r h-if h∈pre then n else 0) ?_ _ ⟨rfl,hr,λh=>by simp⟩ ?_
 ·rintro pre x rest ⟨f,m⟩ Z hL ⟨rfl,h2,h3⟩ hZ;simp only at h2 h3 hZ ⊢;have hL:hs=pre++x::rest:=hL;have hx:x∈hs:=by rw[hL];simp
  have hxp:x∉pre:=λh=>by
   rw[hL,List.nodup_append]at hd;exact hd.2.2 x h x (by simp) rfl
  obtain⟨⟨a,ha,rfl⟩,hle⟩:=hs1 x hx;have hg:=h3 a.Hop;rw[if_neg hxp]at hg;have hrg:=h2.rg a.Hop;have hw:w64 (((bX bt m a.Hop).getD (0:Int))-n)=eM m a.Hop-n:=by
   show w64 (eM m a.Hop-n)=_;exact cM (by omega) (by omega)
  have dH:∀h,eM (eo bt m a.Hop (eM m a.Hop-n)) h=if h=a.Hop then eM m a.Hop-n else eM m h:=λh=>by
   unfold eM;rw[xy];split<;>simp
  refine Ok.chk (h2.some ha) ?_;rw[cond_true,hw];refine hZ _ ⟨?_,⟨afl h2.nd _ _,λh=>?_,λh v hk=>?_⟩,λh=>?_⟩
  ·have:=dH a.Hop;rw[if_pos rfl]at this;show decide (0≤eM (eo bt m a.Hop (eM m a.Hop-n)) a.Hop)=true;rw[this,decide_eq_true];omega
  ·rw[xA,h2.key];exact⟨λhh=>hh.elim (λe=>⟨a,ha,e.symm⟩) id,.inr⟩
  ·rw[xy]at hk;split at hk
   ·cases hk;omega
   ·exact h2.val h v hk
  ·simp only;rw[dH];by_cases he:h=a.Hop
   ·subst he;rw[if_pos rfl,if_pos (by simp)];omega
   ·rw[if_neg he,h3 h];by_cases hp:h∈pre
    ·rw[if_pos hp,if_pos (by simp[hp])]
    ·rw[if_neg hp,if_neg (by simp[hp,he])]
 ·rintro⟨f,m⟩ h;exact Ok.s h
def Step(g:af)(r:RM)(d:bf)(t:aQ)(r':RM):Prop:=
 (∃hs c,t=aQ.mk d.bx hs∧pM (gT g r d.gb) d.bx d.bY hs c∧cI r t d.gb=some (true,r'))∨(t=aQ.mk 0 []∧(¬∀x,x∈d.bY→Con bk (gT g r d.gb) d.bx x)∧r'=r)
inductive Pl(g:af):List bf→List aQ→RM→Prop
 |nil:Pl g [] [] (lU g)
 |snoc {ds:List bf} {out:List aQ} {r r':RM} {d:bf} {t:aQ} (h:Pl g ds out r) (hs:Step g r d t r'):Pl g (ds++[d]) (out++[t]) r'
variable {aq:List ai}{c:Int}{ts:List Int}
theorem agP(hA:iZ aq){root:Int}(h:pM aq root ts hs c):hs.Nodup∧∀x∈hs,∃a∈aq,a.Hop=x:=by
 refine⟨h.asc.imp λ{a b} hlt e=>?_,λx hx=>?_⟩
 ·subst e;simp[cR]at hlt
 ·obtain⟨⟨Hs,hO,_,hp⟩,_⟩:=h;obtain⟨a,ha,rfl⟩:=List.mem_map.1 (hp.mem_iff.1 hx);exact⟨a,hO.sub a ha,rfl⟩
theorem abG{g:af}(hv:Vt g)(hr:ja g r)(hd:DOk g d){root:Int}(h:pM (gT g r d.gb) root d.bY hs c):
  Ok (cI r (aQ.mk d.bx hs) d.gb) λp=>p.1=true∧ja g p.2∧∀h,eM p.2 h=eM r h-if h∈hs then d.gb else 0:=by
 obtain⟨h1,h2⟩:=agP (xW hv r d.gb) h;refine aiS hr hd.gP h1 λx hx=>?_;obtain⟨a,ha,rfl⟩:=h2 x hx;have:=zb.1 ha;exact⟨⟨a,this.1,rfl⟩,this.2⟩
theorem Step.ok{g:af}(hv:Vt g){r':RM}{t:aQ}(h:Step g r d t r')(hr:ja g r)(hd:DOk g d):ja g r':=by
 rcases h with⟨hs,c,rfl,hb,ht⟩|⟨_,_,rfl⟩
 ·obtain⟨p,h1,_,h3,_⟩:=abG hv hr hd hb;rw[ht]at h1;cases h1
  exact h3
 ·exact hr
theorem Pl.ok{g:af}(hv:Vt g){ds:List bf}{out:List aQ}{r:RM}(h:Pl g ds out r)(hd:∀d∈ds,DOk g d):ja g r:=by
 induction h with
 |nil=>exact adr hv
 |snoc h hs ih=>exact hs.ok hv (ih λd hd'=>hd d (by simp[hd'])) (hd _ (by simp))
theorem Pl.len{g:af}{out:List aQ}(h:Pl g ds out r):out.length=ds.length:=by
 induction h with
 |nil=>rfl
 |snoc h hs ih=>simp[ih]
theorem Pl.at{g:af}{ds:List bf}{out:List aQ}{r:RM}(h:Pl g ds out r):∀{i:Nat} {d:bf} {t:aQ},ds[i]?=some d→out[i]?=some t→∃ri r',Pl g (ds.take i) (out.take i) ri∧Step g ri d t r':=by
 induction h with
 |nil=>intro i d t h;simp at h
 |@snoc ds out r r' d0 t0 h hs ih=>
  intro i d t h1 h2;have hl:=h.len;by_cases hi:i<ds.length
  ·rw[List.getElem?_append_left hi]at h1;rw[List.getElem?_append_left (by omega)]at h2;obtain⟨ri,r'',g1,g2⟩:=ih h1 h2;exact⟨ri,r'',by rw[List.take_append_of_le_length (by omega),List.take_append_of_le_length (by omega)];exact g1,g2⟩
  ·obtain rfl:i=ds.length:=by
    have:=(List.getElem?_eq_some_iff.1 h1).1;simp at this;omega
   simp at h1;rw[←hl]at h2;simp at h2;subst h1;subst h2
   refine⟨r,r',?_,hs⟩;rw[List.take_left,←hl,List.take_left];exact h
variable {β:Type}
theorem asQ{b:β}{root:Int}{K:(List aC×Int×Bool)→Option β}(hA:iZ aq)(hl:ts.length≤6)(hK:∀x,ChS aq root ts x→Ok (K x) (λy=>y=b)):Ok (jI aq root ts K) (λy=>y=b):=by
 refine⟨b,?_,rfl⟩;unfold jI;rw[if_pos ⟨hA,hl⟩];refine alB ?_ λx hx=>Ok.eq (hK x hx);by_cases hc:∀t,t∈ts→Con bk aq root t
 ·obtain⟨hs,c,hb⟩:=alY hA hc;exact⟨(hs,c,true),.inl ⟨rfl,hb⟩⟩
 ·exact⟨([],0,false),.inr ⟨rfl,hc⟩⟩
theorem al5{a b:List ai}(h:a.Perm b){root:Int}{x:List aC×Int×Bool}(hx:ChS a root ts x):ChS b root ts x:=by
 rcases hx with⟨h1,h2⟩|⟨h1,h2⟩
 ·exact .inl ⟨h1,agz h h2⟩
 ·exact .inr ⟨h1,λhh=>h2 λt ht=>(hh t ht).mono λa ha=>h.mem_iff.2 ha⟩
theorem xB{b:β}{g:af}(hv:Vt g)(hd:∀d∈ds,DOk g d)(hl:ds.length≤12){K:(List aQ×Int)→Option β}(hK:∀out r,Pl g ds out r→K (out,0)=some b):fT g ds K=some b:=by
 unfold fT;rw[xz hv hd hl,aM,decide_eq_true rfl,Bool.not_true,cond_false,abF,aM];refine Ok.eq (Ok.chk (by simp;omega) ?_);refine Ok.qm (λpre (sg:List aQ×RM)=>∃out,sg.1=out++List.replicate (ds.length-pre.length) (aQ.mk 0 [])∧Pl g pre out sg.2) ?_ _ ⟨[],by simp,.nil⟩ ?_
 ·rintro pre d rest ⟨o,m⟩ Z hL ⟨out,h1,h2⟩ hZ;simp only at h1 h2 hZ ⊢;subst h1;have hdd:=hd d (by rw[hL];simp);have hm:=h2.ok hv λd hd'=>hd d (by rw[hL];simp[hd']);have hlen:=h2.len;have hn:ds.length=pre.length+1+rest.length:=by rw[hL];simp;omega
  have fk:List.replicate (ds.length-pre.length) (aQ.mk 0 [])=aQ.mk 0 []::List.replicate (ds.length-(pre++[d]).length) (aQ.mk 0 []):=by
   rw[List.length_append,List.length_singleton,←List.replicate_succ];congr 1;omega
  obtain⟨q,hq,hp⟩:=aj0 hv m d.gb;simp only[jn,hq,aM];refine asQ (ad6 hp (xW hv m d.gb)) hdd.len λx hx=>?_;have hx:=al5 hp hx;obtain⟨hs,c,ok⟩:=x;rcases hx with⟨e,hb⟩|⟨e,hn⟩
  ·simp only at e hb;subst e;obtain⟨p,g1,g2,g3,g4⟩:=abG hv hm hdd hb;obtain⟨f,m'⟩:=p;simp only at g2 g3 g4;subst g2;have hlt:pre.length<(out++List.replicate (ds.length-pre.length) (aQ.mk 0 [])).length:=by simp;omega
   obtain⟨t0,e1,_⟩:=jN (l:=out++List.replicate (ds.length-pre.length) (aQ.mk 0 [])) (i:=(pre.length:Int)) (by omega) (by omega);have e2:jU (out++List.replicate (ds.length-pre.length) (aQ.mk 0 [])) (pre.length:Int) (aQ.mk d.bx hs)=some ((out++[aQ.mk d.bx hs])++List.replicate (ds.length-(pre++[d]).length) (aQ.mk 0 [])):=by
    obtain⟨w,g5,g6,_⟩:=ue (l:=out++List.replicate (ds.length-pre.length) (aQ.mk 0 [])) (i:=(pre.length:Int)) (x:=aQ.mk d.bx hs) (by omega) (by omega);rw[g5,g6,fk,Int.toNat_natCast,←hlen,List.set_append_right _ _ (Nat.le_refl _)];simp
   have e3:elO ((out++[aQ.mk d.bx hs])++List.replicate (ds.length-(pre++[d]).length) (aQ.mk 0 [])) (pre.length:Int)=some (aQ.mk d.bx hs):=by
    rw[←hlen,List.append_assoc];exact xe _ _ _
   simp only[cond_true,e1,e2,e3,g1,aM];exact hZ _ ⟨out++[aQ.mk d.bx hs],rfl,.snoc h2 (.inl ⟨hs,c,rfl,hb,g1⟩)⟩
  ·injection e with e1 e2
   injection e2 with e2 e3
   subst e1;subst e2;subst e3
   simp only[cond_false];exact hZ _ ⟨out++[aQ.mk 0 []],by simp only;rw[fk,List.append_assoc];rfl,.snoc h2 (.inr ⟨rfl,hn,rfl⟩)⟩
 ·rintro⟨o,m⟩ ⟨out,h1,h2⟩;simp only at h1 h2 ⊢;rw[Nat.sub_self,List.replicate_zero,List.append_nil]at h1;subst h1;exact⟨b,hK _ _ h2,rfl⟩
end
section
def ldR(p:aC×Int):bQ:=bQ.mk p.1.aD p.1.To p.2
def vJ(r:RM):List bQ:=r.map ldR
def jP(x:bQ):aC:=aC.mk x.aD x.To
variable {r:RM}
theorem ads{g:af}(hr:ja g r):r.length≤2*g.Links.length:=by
 have:=pS (b:=(dS g).map (·.Hop)) hr.nd λx hx=>by
  obtain⟨a,ha,rfl⟩:=(hr.key x).1 hx;exact List.mem_map.2 ⟨a,ha,rfl⟩
 simpa [qp]using this
theorem agR{g:af}(hv:Vt g)(hr:ja g r):∃l,jL r=some l∧l.Perm (vJ r):=by
 have h1:=ads hr;have h2:=hv.nl;unfold jL;rw[if_pos (by omega)]
 obtain⟨m,g1,g2,_⟩:=w8 (ks:=[λx:bQ=>x.aD,λx:bQ=>x.To]) (l:=vJ r) (by
  unfold vJ;rw[List.pairwise_map];exact(List.pairwise_map.1 hr.nd).imp λ{a b} h=>agx h) (by simp[vJ];omega)
 exact⟨m,g1,g2⟩
theorem agS(h:aC):∀(ls:List bQ) (m:RM),bX bt (ls.foldl (λm x=>eo bt m (aC.mk x.aD x.To) x.Count) m) h=((ls.reverse.find? λx=>decide (jP x=h)).map (·.Count)).or (bX bt m h)
 |[],m=>by simp
 |x::r,m=>by
  rw[List.foldl_cons,agS h r,xy,List.reverse_cons,List.find?_append];cases hf:r.reverse.find? λx=>decide (jP x=h)with
  |some y=>simp
  |none=>
   simp only[Option.map_none,Option.none_or,List.find?_cons,List.find?_nil];by_cases he:h=aC.mk x.aD x.To
   ·rw[if_pos he,decide_eq_true (show jP x=h from he.symm)];rfl
   ·rw[if_neg he,decide_eq_false (show ¬jP x=h from λe=>he e.symm)];rfl
variable {l:List bQ}
theorem agT(hnd:(r.map (·.1)).Nodup)(hp:l.Perm (vJ r))(h:aC):bX bt (qI l) h=bX bt r h:=by
 have hmem:∀x,x∈l↔(jP x,x.Count)∈r:=λx=>by
  rw[hp.mem_iff];constructor
  ·intro hx;obtain⟨p,hp,rfl⟩:=List.mem_map.1 hx;exact hp
  ·intro hx;exact List.mem_map.2 ⟨_,hx,rfl⟩
 unfold qI;rw[agS,List.reverse_reverse];have e0:bX bt ([]:RM) h=none:=rfl;rw[e0,Option.or_none];cases hf:l.find? λx=>decide (jP x=h)with
 |some x=>
  have h1:=List.find?_some hf;simp only[decide_eq_true_eq]at h1;subst h1;exact(ajZ hnd ((hmem x).1 (List.mem_of_find?_eq_some hf))).symm
 |none=>
  simp only[Option.map_none];symm;rw[aeb];intro hk;obtain⟨p,hp,rfl⟩:=List.mem_map.1 hk;have:=List.find?_eq_none.1 hf (ldR p) ((hmem _).2 hp);simp[jP,ldR]at this
theorem afm{g:af}(hnd:(r.map (·.1)).Nodup)(hp:l.Perm (vJ r))(n:Int):gT g (qI l) n=gT g r n:=by
 have:∀h,eM (qI l) h=eM r h:=λh=>by unfold eM;rw[agT hnd hp]
 unfold gT;simp only[this]
theorem abH{α σ β:Type}{B:Int→α→(σ→Option β)→σ→Option β}(x:α):∀(l:List α) (j:Nat) (K:σ→Option β) (s:σ),bz (l++[x]) j B K s=bz l j B (λs'=>B ((j+l.length:Nat):Int) x K s') s
 |[],j,K,s=>rfl
 |y::r,j,K,s=>by
  simp only[List.cons_append,bz];congr 1;funext s';rw[abH x r (j+1) K s'];congr 1;funext s2;rw[show j+1+r.length=j+(y::r).length by simp;omega]
variable {ds es:List bf}{out:List aQ}
theorem al6{β:Type}{g:af}(hv:Vt g)(hd:∀d∈ds,DOk g d){B:Int→aQ→(RM→Option β)→RM→Option β}
  (hB:∀(j:Nat) d t r r' Z,ds[j]?=some d→Step g r d t r'→ja g r→DOk g d→B (j:Int) t Z r=Z r')    (h:Pl g es out r):es <+: ds→∀K,bz out 0 B K (lU g)=K r:=by
 induction h with
 |nil=>intro _ K;rfl
 |@snoc es out r r' d t h hs ih=>
  intro hp K;obtain⟨fs,hf⟩:=hp;rw[abH,ih ⟨d::fs,by rw[←hf];simp⟩,Nat.zero_add,h.len];refine hB _ d t r r' K (by rw[←hf];simp) hs (h.ok hv λd hd'=>hd d (by rw[←hf];simp[hd'])) (hd d (by rw[←hf];simp))
theorem ap1{α:Type}{l:List α}{j:Nat}{x:α}(h:l[j]?=some x):elO l (j:Int)=some x:=by unfold elO;rw[if_pos (by omega),Int.toNat_natCast];exact h
theorem aiT(x:aQ):kQ x=some (decide (x.bx=0)&&decide (x.Links.length=0)):=by
 unfold kQ;rw[show decide ((x.Links.length:Int)=0)=decide (x.Links.length=0)by rw[Bool.eq_iff_iff];simp]
theorem agU(r:RM)(root n:Int):cI r (aQ.mk root []) n=some (true,r):=rfl
theorem aiU{g:af}(hv:Vt g)(hd:∀d∈ds,DOk g d)(hl:ds.length≤12)(h:Pl g es out r)(hp:es <+: ds):∃l,gQ g ds out=some (l,0)∧l.Perm (vJ r):=by
 have hle:=hp.length_le;have hlen:=h.len;obtain⟨l,h1,h2⟩:=agR hv (h.ok hv λd hd'=>hd d (hp.subset hd'));refine⟨l,?_,h2⟩;unfold gQ;rw[xz hv hd hl,aM,decide_eq_true rfl,Bool.not_true,cond_false,decide_eq_false (by omega),cond_false,abF,aM];refine(al6 hv hd (λj d t r r' Z hj hs hr hdd=>?_) h hp _).trans ?_
 ·simp only[ap1 hj,aiT,aM,jn];rcases hs with⟨hs,c,rfl,hb,ht⟩|⟨rfl,hn,rfl⟩
  ·have hnz:=(rX hv hdd.root).1;have hlen:=y7 (xW hv r d.gb) hb
   rw[decide_eq_false (by simp only;omega),Bool.false_and,Bool.not_false,cond_true,ado _ _ _ (by simp only;omega) (by simp),aM,
    aea hv (λa ha=>(zb.1 ha).1) hdd.root hb List.Pairwise.nil (λx hx=>by cases hx) (λx hx=>by cases hx),decide_eq_true rfl,Bool.not_true,cond_false,ht,aM]
   rfl
  ·simp only[agU,aM,List.length_nil,decide_true,Bool.and_self,Bool.not_true,cond_false]
 ·rw[h1,aM]
theorem agV{g:af}(hv:Vt g)(r:RM)(d:bf):∃l,jM g r d=some (l,d.bY.all λx=>decide (x∈l))∧l.Pairwise (·<·)∧∀x,x∈l↔Con bk (gT g r d.gb) d.bx x:=by
 obtain⟨q,hq,hp⟩:=aj0 hv r d.gb;have hA:=ad6 hp (xW hv r d.gb);obtain⟨l,h1,h2,h3⟩:=qj hA.len d.bx;have hlen:l.length≤1000000:=by
  have:=pS (b:=d.bx::q.map (·.Hop.To)) (h2.imp λh=>by omega) λx hx=>by
   rcases uk ((h3 x).1 hx)with rfl|⟨a,ha,rfl⟩
   ·simp
   ·exact List.mem_cons_of_mem _ (List.mem_map.2 ⟨a,ha,rfl⟩)
  have:=hA.len;simp at *;omega
 refine⟨l,?_,h2,λx=>by rw[h3];exact⟨λh=>h.mono λa ha=>hp.mem_iff.1 ha,λh=>h.mono λa ha=>hp.mem_iff.2 ha⟩⟩;unfold jM;rw[hq,aM,h1,aM]
 refine(eY (λx=>!decide (x∈l)) (some (l,false)) (λj x Z s=>by
  obtain⟨i,hi⟩:=ap0 hlen h2 x;rw[hi,aM]) _ _ _).trans ?_
 have e:(d.bY.any λx=>!decide (x∈l))=!(d.bY.all λx=>decide (x∈l)):=by
  rw[List.any_eq_not_all_not];simp
 rw[e];cases d.bY.all λx=>decide (x∈l)<;>rfl
theorem adK{g:af}(hv:Vt g)(hr:ja g r)(hp:l.Perm (vJ r)){d:bf}(hd:DOk g d)(hn:¬∀x,x∈d.bY→Con bk (gT g r d.gb) d.bx x):
  ∃w,gE g l d=some (w,0)∧w.Pairwise (·<·)∧∀x,x∈w↔Con bk (gT g r d.gb) d.bx x:=by
 obtain⟨w,h1,h2,h3⟩:=agV hv (qI l) d;rw[afm hr.nd hp]at h3;refine⟨w,?_,h2,h3⟩;have hlen:=hp.length_eq;have:=ads hr;have:=hv.nl;unfold gE mh;rw[xz hv (λx hx=>by rw[List.mem_singleton]at hx;subst hx;exact hd) (by simp),aM,decide_eq_true rfl,Bool.not_true,cond_false,if_pos (by rw[hlen];simp[vJ];omega),aM,h1,aM]
 have e:(d.bY.all λx=>decide (x∈w))=false:=by
  cases h:d.bY.all λx=>decide (x∈w)with
  |false=>rfl
  |true=>
   rw[List.all_eq_true]at h;exact absurd (λx hx=>(h3 x).1 (by simpa using h x hx)) hn
 simp only[e,cond_false]
end
section
variable {out:List aQ}{r:RM}
theorem Pl.inv{g:af}{ds:List bf}{d:bf}(h:Pl g (ds++[d]) out r):∃o t r',out=o++[t]∧Pl g ds o r'∧Step g r' d t r:=by
 generalize he:ds++[d]=l at h;cases h with
 |nil=>simp at he
 |snoc h hs=>
  obtain⟨h1,h2⟩:=List.append_inj' he rfl;cases h2;subst h1;exact⟨_,_,_,rfl,h,hs⟩
theorem Pl.ap2{g:af}(h:Pl g [] out r):out=[]∧r=lU g:=by
 generalize he:([]:List bf)=l at h;cases h with
 |nil=>exact⟨rfl,rfl⟩
 |snoc h hs=>simp at he
theorem adt{aq:List ai}(hA:∀b∈aq,1≤b.cU){a:ai}(ha:a∈aq)(hc:a.cU=1)(hu:∀b∈aq,b.Hop.To=a.Hop.To→b=a)(hne:a.Hop.To≠a.Hop.aD){hs:List aC}{c:Int}(h:pM aq a.Hop.aD [a.Hop.To] hs c):hs=[a.Hop]:=by
 obtain⟨⟨Hs,hO,_,hp⟩,_⟩:=h;have h1:=hO.cov a.Hop.To (by simp);have hin:a∈Hs:=by
  rcases uk h1 with e|⟨b,hb,e⟩
  ·exact absurd e hne
  ·exact hu b (hO.sub b hb) e▸hb
 have h2:=hO.min [a] (by intro x hx;rw[List.mem_singleton]at hx;subst hx;exact ha) (by intro t ht;rw[List.mem_singleton]at ht;subst ht;exact Con.one (N:=bk) (by simp));have e:dw bk [a]=1:=by simp[dw,bk,hc]
 have h3:∀l:List ai,(∀b∈l,b∈aq)→(l.length:Int)≤dw bk l:=λl=>by
  induction l with
  |nil=>intro _;simp[dw]
  |cons b r ih=>
   intro hl;have:=ih λx hx=>hl x (by simp[hx]);have hb:=hA b (hl b (by simp));rw[gl,List.length_cons];have:bk.cost b=b.cU:=rfl;omega
 have h4:=h3 Hs hO.sub;have h5:Hs.length=1:=by
  have:=List.length_pos_of_mem hin;omega
 obtain⟨b,rfl⟩:=List.length_eq_one_iff.1 h5;rw[List.mem_singleton]at hin;subst hin;exact List.perm_singleton.1 hp
def kS:af:=af.mk [(aW.mk 1 true),(aW.mk 2 true)] [(aU.mk 1 2 1 1 5)]
theorem al7:lT=some kS:=rfl
theorem xX:Vt kS:=nw.1 (by kernel_rfl)
def a12:ai:=⟨⟨1,2⟩,1⟩
def a21:ai:=⟨⟨2,1⟩,1⟩
def pr1:RM:=[(⟨1,2⟩,2),(⟨2,1⟩,5)]
theorem afn:gT kS (lU kS) 3=[a12,a21]:=by kernel_rfl
theorem vK:gT kS pr1 3=[a21]:=by kernel_rfl
theorem afo:gT kS pr1 4=[a21]:=by kernel_rfl
theorem aed:¬∀x,x∈[(2:Int)]→Con bk [a21] 1 x:=λh=>by
 rcases uk (h 2 (by simp))with e|⟨b,hb,e⟩
 ·cases e
 ·rw[List.mem_singleton]at hb;subst hb;cases e
def td:List bf:=[(bf.mk (1:Int) ([(2:Int)]:List Int) (3:Int)),(bf.mk (1:Int) ([(2:Int)]:List Int) (3:Int)),(bf.mk (2:Int) ([(1:Int)]:List Int) (4:Int))]
theorem vM:∀d∈td,DOk kS d:=by
 intro d hd;simp only[td,List.mem_cons,List.not_mem_nil,or_false]at hd;rcases hd with rfl|rfl|rfl<;>exact⟨by decide,by simp,by simp[ids,kS],by simp,by simp⟩
theorem al8:jZ=some true:=by
 unfold jZ;simp only[al7,aM];refine xB xX vM (by decide) λout r h=>?_
 have hc:∀{r1 r2:RM} {t:aQ} {d:bf} {ts:List ai},gT kS r1 d.gb=ts→(∀x,x∈d.bY→Con bk ts d.bx x)→Step kS r1 d t r2→∃hs c,t=aQ.mk d.bx hs∧pM ts d.bx d.bY hs c∧cI r1 t d.gb=some (true,r2):=λe hc hs=>by
  subst e;rcases hs with h|⟨_,h,_⟩
  ·exact h
  ·exact absurd hc h
 obtain⟨o,t3,r2,rfl,h,s3⟩:=Pl.inv (ds:=[(bf.mk (1:Int) ([(2:Int)]:List Int) (3:Int)),(bf.mk (1:Int) ([(2:Int)]:List Int) (3:Int))]) h;obtain⟨o,t2,r1,rfl,h,s2⟩:=Pl.inv (ds:=[(bf.mk (1:Int) ([(2:Int)]:List Int) (3:Int))]) h;have hp1:=h;obtain⟨o,t1,r0,rfl,h,s1⟩:=Pl.inv (ds:=[]) h;obtain⟨rfl,rfl⟩:=h.ap2;obtain⟨hs,c,rfl,hb,ht⟩:=hc afn (by intro x hx;rw[List.mem_singleton]at hx;subst hx;exact Con.one (N:=bk) (a:=a12) (by simp)) s1;have e1:hs=[⟨1,2⟩]:=adt (a:=a12) (by decide) (by simp) rfl (by intro b hb h;simp only[List.mem_cons,List.not_mem_nil,or_false]at hb;rcases hb with rfl|rfl;rfl;cases h) (by decide) hb;subst e1;have e1:r1=pr1:=by
  have e:cI (lU kS) (aQ.mk 1 [⟨1,2⟩]) 3=some (true,pr1):=by kernel_rfl
  rw[e]at ht;cases ht;rfl
 subst e1;have s2:t2=aQ.mk 0 []∧r2=pr1:=by
  rcases s2 with⟨hs,c,_,hb,_⟩|⟨h1,_,h3⟩
  ·obtain⟨⟨Hs,hO,_,_⟩,_⟩:=hb;have hb:=hO.cov;exact absurd (λx hx=>(hb x hx).mono λa ha=>by have:=hO.sub a ha;rwa [show gT kS pr1 _=[a21]from vK]at this) aed
  ·exact⟨h1,h3⟩
 obtain⟨rfl,rfl⟩:=s2;obtain⟨hs,c,rfl,hb,ht⟩:=hc afo (by intro x hx;rw[List.mem_singleton]at hx;subst hx;exact Con.one (N:=bk) (a:=a21) (by simp)) s3;have e1:hs=[⟨2,1⟩]:=adt (a:=a21) (by decide) (by simp) rfl (by intro b hb h;rw[List.mem_singleton]at hb;exact hb) (by decide) hb;subst e1;obtain⟨l,hl,hlp⟩:=aiU xX vM (by decide) hp1 ⟨_,rfl⟩;obtain⟨w,hw,hw2,hw3⟩:=adK xX (hp1.ok xX λd hd=>vM d (by simp at hd;simp[hd,td])) hlp (vM (bf.mk (1:Int) ([(2:Int)]:List Int) (3:Int)) (by simp[td])) (by rw[show gT kS pr1 _=[a21]from vK];exact aed);have ew:w=[1]:=by
  refine abw hw2 (by simp) λx=>?_;rw[hw3,show gT kS pr1 _=[a21]from vK,List.mem_singleton];constructor
  ·intro h;have:=aab h (l:=[1]) (by intro a ha hf;rw[List.mem_singleton]at ha;subst ha;simp[a21]at hf) (by simp);simpa using this
  ·rintro rfl;exact .refl _
 subst ew;have h0:nM [aQ.mk 1 [⟨1,2⟩],aQ.mk 0 [],aQ.mk 2 [⟨2,1⟩]] (0:Int) (1:Int)=some [aQ.mk 1 [⟨1,2⟩]]:=by kernel_rfl
 have hl:gQ kS td [aQ.mk 1 [⟨1,2⟩]]=some (l,0):=hl;have h1:elO td (1:Int)=some (bf.mk (1:Int) ([(2:Int)]:List Int) (3:Int)):=by kernel_rfl
 show(bif (!decide ((0:Int)=0))||(!decide ((3:Int)=3))then some false else bnd (nM [aQ.mk 1 [⟨1,2⟩],aQ.mk 0 [],aQ.mk 2 [⟨2,1⟩]] (0:Int) (1:Int)) λ(l_1:List aQ)=>bnd (gQ kS td l_1) λbU=>bnd (elO td (1:Int)) λe_1=>bnd (gE kS bU.1 e_1) _)=_;rw[h0,aM,hl,aM,h1,aM,hw,aM,apI];rfl
end
section
def aad(h k:aC):Prop:=h.aD<k.aD∨(h.aD=k.aD∧h.To<k.To)
theorem xC{h:aC}:¬aad h h:=by unfold aad;omega
structure LF(K:aC→Prop)(f:aC→Int)(l:List bQ):Prop where
 asc:l.Pairwise λa b=>aad (jP a) (jP b)
 mem:∀x,x∈l↔K (jP x)∧x.Count=f (jP x)
 zero:∀h,¬K h→f h=0
theorem LF.congr{K K':aC→Prop}{f f':aC→Int}{l:List bQ}(h:LF K f l)(hk:∀h,K h↔K' h)(hf:∀h,f h=f' h):LF K' f' l:=
 ⟨h.asc,λx=>by rw[h.mem,hk,hf],λx hx=>by rw[←hf];exact h.zero x (λhh=>hx ((hk x).1 hh))⟩
theorem aiV{x y:bQ}(h:jP x=jP y)(hc:x.Count=y.Count):x=y:=by
 cases x;cases y
 simp only[jP,aC.mk.injEq]at h;simp only at hc;rw[h.1,h.2,hc]
theorem LF.put{K:aC→Prop}{f:aC→Int}{p mid r:List bQ}{h:aC}{c:Int}(hl:LF K f (p++mid++r))(hp:∀y∈p,aad (jP y) h)(hr:∀y∈r,aad h (jP y))(hm:∀y∈mid,jP y=h):
  LF (λk=>K k∨k=h) (λk=>if k=h then c else f k) (p++bQ.mk h.aD h.To c::r):=by
 have hnew:jP (bQ.mk h.aD h.To c)=h:=rfl
 have hne:∀y,(y∈p∨y∈r)→jP y≠h:=λy hy e=>by
  rcases hy with hy|hy
  ·have:=hp y hy;rw[e]at this;exact xC this
  ·have:=hr y hy;rw[e]at this;exact xC this
 refine⟨?_,λx=>?_,λk hk=>?_⟩
 ·have ha:=hl.asc;rw[List.append_assoc,List.pairwise_append]at ha;obtain⟨a1,a2,a3⟩:=ha;rw[List.pairwise_append]at a2;rw[List.pairwise_append,List.pairwise_cons];refine⟨a1,⟨λy hy=>hr y hy,a2.2.1⟩,λx hx y hy=>?_⟩;rcases List.mem_cons.1 hy with rfl|hy
  ·exact hp x hx
  ·exact a3 x hx y (List.mem_append_right _ hy)
 ·rw[List.mem_append,List.mem_cons];by_cases he:jP x=h
  ·simp only[he,or_true,if_true,true_and];constructor
   ·rintro(hx|hx|hx)
    ·exact absurd he (hne x (.inl hx))
    ·rw[hx]
    ·exact absurd he (hne x (.inr hx))
   ·intro hc;exact .inr (.inl (aiV (by rw[he];rfl) hc))
  ·simp only[he,or_false,if_false];rw[←hl.mem,List.mem_append,List.mem_append];constructor
   ·rintro(hx|rfl|hx)
    ·exact .inl (.inl hx)
    ·exact absurd hnew he
    ·exact .inr hx
   ·rintro((hx|hx)|hx)
    ·exact .inl hx
    ·exact absurd (hm x hx) he
    ·exact .inr (.inr hx)
 ·have hk1:k≠h:=λe=>hk (.inr e);simp only[if_neg hk1];exact hl.zero k λhh=>hk (.inl hh)
end
section
def AK(g:af)(h:aC):Prop:=∃a∈dS g,a.Hop=h
theorem LF.len{g:af}{K:aC→Prop}{f:aC→Int}{l:List bQ}(h:LF K f l)(hK:∀x,K x→AK g x):l.length≤2*g.Links.length:=by
 have hnd:(l.map jP).Nodup:=by
  show List.Pairwise _ _;rw[List.pairwise_map];exact h.asc.imp λ{a b} hlt (e:jP a=jP b)=>xC (e▸hlt)
 have:=pS (b:=(dS g).map (·.Hop)) hnd λx hx=>by
  obtain⟨y,hy,rfl⟩:=List.mem_map.1 hx;obtain⟨a,ha,he⟩:=hK _ ((h.mem y).1 hy).1;exact List.mem_map.2 ⟨a,ha,he⟩
 simpa [qp]using this
end
section
def zr(g:af)(m:List (List Int))(x y:Int):List (List Int):=m.set ((ids g).idxOf x) ((m.getD ((ids g).idxOf x) []).set ((ids g).idxOf y) 0)
def afp(g:af)(r:RM)(n:Int)(S:List ai)(u v:Nat):Prop:=∃a∈S,¬n≤eM r a.Hop∧(ids g).idxOf a.Hop.aD=u∧(ids g).idxOf a.Hop.To=v
structure ZI(g:af)(r:RM)(n:Int)(m0:List (List Int))(S:List ai)(m:List (List Int)):Prop where
 len:m.length=(ids g).length
 row:∀u,u<(ids g).length→(m.getD u []).length=(ids g).length
 shut:∀u v,u<(ids g).length→v<(ids g).length→afp g r n S u v→ent m u v=0
 same:∀u v,u<(ids g).length→v<(ids g).length→¬afp g r n S u v→ent m u v=ent m0 u v
theorem ZI.step{g:af}{r:RM}{n:Int}{m0:List (List Int)}{S:List ai}{m:List (List Int)}(h:ZI g r n m0 S m){a:ai}(h1:a.Hop.aD∈ids g)(h2:a.Hop.To∈ids g):
  ZI g r n m0 (S++[a]) (if eM r a.Hop<n then zr g m a.Hop.aD a.Hop.To else m):=by
 have i1:=List.idxOf_lt_length_of_mem h1;have i2:=List.idxOf_lt_length_of_mem h2
 have hor:∀u v,afp g r n (S++[a]) u v↔afp g r n S u v∨(eM r a.Hop<n∧(ids g).idxOf a.Hop.aD=u∧(ids g).idxOf a.Hop.To=v):=λu v=>by
  constructor
  ·rintro⟨b,hb,q⟩;rcases List.mem_append.1 hb with hb|hb
   ·exact .inl ⟨b,hb,q⟩
   ·rw[List.mem_singleton]at hb;subst hb
    exact .inr ⟨by omega,q.2⟩
  ·rintro(⟨b,hb,q⟩|⟨q1,q2⟩)
   ·exact⟨b,by simp[hb],q⟩
   ·exact⟨a,by simp,by omega,q2⟩
 by_cases hc:eM r a.Hop<n
 ·rw[if_pos hc];have he:=aa2 (c:=0) h.len h.row i1 i2;refine⟨by unfold zr;rw[List.length_set];exact h.len,y9 h.len h.row i1,λu v hu hv' hs=>?_,λu v hu hv' hs=>?_⟩
  ·show ent (m.set _ _) u v=0;rw[he];by_cases hq:u=(ids g).idxOf a.Hop.aD∧v=(ids g).idxOf a.Hop.To
   ·rw[if_pos hq]
   ·rw[if_neg hq];rcases(hor u v).1 hs with h3|⟨_,h3,h4⟩
    ·exact h.shut u v hu hv' h3
    ·exact absurd ⟨h3.symm,h4.symm⟩ hq
  ·show ent (m.set _ _) u v=_;rw[he];have hn:¬(u=(ids g).idxOf a.Hop.aD∧v=(ids g).idxOf a.Hop.To):=λhq=>hs ((hor u v).2 (.inr ⟨hc,hq.1.symm,hq.2.symm⟩));rw[if_neg hn];exact h.same u v hu hv' λh3=>hs ((hor u v).2 (.inl h3))
 ·rw[if_neg hc];refine⟨h.len,h.row,λu v hu hv' hs=>?_,λu v hu hv' hs=>h.same u v hu hv' λh3=>hs ((hor u v).2 (.inl h3))⟩;rcases(hor u v).1 hs with h3|h3
  ·exact h.shut u v hu hv' h3
  ·exact absurd h3.1 hc
end
end Go.Proofs.YtmnbolcmepihlaaGreat
