/- Several texts in one. No condition but those that stand in each. -/
import Derived.Test.YtmnbolcmepihlaaGreatPQA
import Derived.Test.YtmnbolcmepihlaaGreatPN
namespace Go.Proofs.YtmnbolcmepihlaaGreat
set_option linter.all false
open Go
def pk(S:Nat):Nat→List aq→List aq
 |_,[]=>[]
 |i,a::r=>if S.testBit i then a::pk S (i+1) r else pk S (i+1) r
def addA(v:List Int)(a:aq):List Int:=if a.Hop.aH∈v then iW v a.Hop.To else v
def rnd(H:List aq)(v:List Int):List Int:=H.foldl addA v
def rounds(H:List aq):Nat→List Int→List Int
 |0,v=>v
 |n+1,v=>rounds H n (rnd H v)
end Go.Proofs.YtmnbolcmepihlaaGreat
namespace Go.Proofs.YtmnbolcmepihlaaGreat
set_option linter.all false
open Go
theorem aaR{n:Int}(h0 : -1000000≤n)(h1:n≤4000000000):w64 n=n:=by unfold w64;rw[IntKind.wrap_i64];omega
def plc(t:aj)(x:Int):Nat:=(ids t).idxOf x
variable {t:aj}{x:Int}
theorem xG(h:x∈ids t):plc t x<t.ak.length:=by
 have:=List.idxOf_lt_length_of_mem h
 simpa [ids,plc]using this
theorem aix{y:Int}(hx:x∈ids t)(hy:y∈ids t)(h:plc t x=plc t y):x=y:=by
 have h1:=List.getElem_idxOf (List.idxOf_lt_length_of_mem hx)
 have h2:=List.getElem_idxOf (List.idxOf_lt_length_of_mem hy)
 unfold plc at h
 rw[←h1,←h2]
 simp only[h]
theorem yC{β:Type}(x:Int)(g:Int→Option β)(a:Option β):∀(l:List aK) (j:Nat),bF l j (λ(j1:Int) (e1:aK) (Z1:Unit→Option β) (_:Unit)=>bif decide (e1.ID=x)then g j1 else Z1 ()) (λ_=>a) () =
  if x∈l.map (·.ID)then g ((j+(l.map (·.ID)).idxOf x:Nat):Int)else a
 |[],j=>by simp[bF]
 |r::l,j=>by
  show(bif decide (r.ID=x)then g (j:Int)else bF l (j+1) (λ(j1:Int) (e1:aK) (Z1:Unit→Option β) (_:Unit)=>bif decide (e1.ID=x)then g j1 else Z1 ()) (λ_=>a) ())=_
  by_cases h:r.ID=x
  ·rw[decide_eq_true h,cond_true];subst h;simp
  ·have:=yC x g a l (j+1)
   rw[decide_eq_false h,cond_false,this]
   simp only[List.map_cons,List.mem_cons,Ne.symm h,false_or,List.idxOf_cons]
   have hb:(r.ID==x)=false:=by simpa using h
   rw[hb]
   simp only[cond_false]
   rw[show j+1+List.idxOf x (List.map (λx=>x.ID) l)=j+(List.idxOf x (List.map (λx=>x.ID) l)+1)by omega]
theorem zk(h:x∈ids t):kR t x=some (plc t x:Int):=by
 have:=yC x (λj=>some j) (some (0:Int)) t.ak 0
 have h':x∈t.ak.map (·.ID):=h
 rw[if_pos h',Nat.zero_add]at this
 exact this
theorem al3(t:aj)(d:List Int)(x:Int):l7 t d x=if x∈ids t then elO d (plc t x:Int)else some 1073741824:=by
 have:=yC x (λj=>bnd (elO d j) λe=>some e) (some 1073741824) t.ak 0
 rw[Nat.zero_add]at this
 have e:∀o:Option Int,(bnd o λe=>some e)=o:=λo=>by cases o<;>rfl
 unfold l7
 refine Eq.trans this ?_
 rw[e];rfl
def cm(t:aj)(d:List Int)(x:Int):Int:=d.getD (plc t x) 1073741824
variable {d:List Int}
theorem yD(hd:d.length=t.ak.length)(hx:x∈ids t):elO d (plc t x:Int)=some (cm t d x):=by
 have h:=xG hx
 rw[←hd]at h
 unfold elO cm
 rw[if_pos (by omega)]
 simp[List.getD_eq_getElem?_getD,h]
theorem aiy(hd:d.length=t.ak.length){y v:Int}(hx:x∈ids t)(hy:y∈ids t):cm t (d.set (plc t x) v) y=if y=x then v else cm t d y:=by
 have h:=xG hx
 rw[←hd]at h
 unfold cm
 rw[List.getD_eq_getElem?_getD,List.getD_eq_getElem?_getD,List.getElem?_set]
 by_cases e:y=x
 ·subst e;simp[h]
 ·rw[if_neg (λe'=>e (aix hy hx e'.symm)),if_neg e]
structure Bf(t:aj)(to:Int)(d:List Int):Prop where
 len:d.length=t.ak.length
 le:∀x∈ids t,cm t d x≤1073741824
 wk:∀x∈ids t,cm t d x<1073741824→Wk (lkC t) x to (cm t d x)
 z:cm t d to≤0
def oI(t:aj)(d:List Int)(x y w:Int):List Int:=if cm t d y<1073741824 then d.set (plc t x) (if w+cm t d y<cm t d x then w+cm t d y else cm t d x)else d
variable {to w:Int}
theorem zl(hv:Vt t)(hB:Bf t to d){y:Int}(hx:x∈ids t)(hy:y∈ids t)(hw:1≤w∧w≤1000){β:Type}(J:List Int→Option β):
  (bnd (elO d (plc t y:Int)) λ(e4:Int)=>bif decide (e4<(1073741824:Int))then bnd (elO d (plc t x:Int)) λ(e5:Int)=>bnd (nH d (plc t x:Int) (if(w64 (w+e4))<e5 then w64 (w+e4)else e5)) λ(l3:List Int)=>J l3 else J d)=J (oI t d x y w):=by
 rw[yD hB.len hy,aP]
 unfold oI
 by_cases h:cm t d y<1073741824
 ·rw[if_pos h,show decide (cm t d y<1073741824)=true from decide_eq_true h,cond_true,yD hB.len hx,aP]
  have h0:=(hB.wk y hy h).aaQ (pW hv)
  rw[aaR (by omega) (by omega)]
  have hl:=xG hx
  have hlen:=hB.len
  unfold nH
  rw[if_pos (by omega),aP]
  simp
 ·rw[if_neg h,show decide (cm t d y<1073741824)=false from decide_eq_false h,cond_false]
theorem aaS(hv:Vt t)(hto:to∈ids t)(hB:Bf t to d){y:Int}(hw:lkC t x y=some w):
  Bf t to (oI t d x y w)∧(∀z∈ids t,cm t (oI t d x y w) z≤cm t d z)∧(cm t d y<1073741824→cm t (oI t d x y w) x≤w+cm t d y):=by
 obtain⟨hx,hy⟩:=pX hv hw
 unfold oI
 by_cases h:cm t d y<1073741824
 ·rw[if_pos h]
  have hval:∀z∈ids t,cm t (d.set (plc t x) (if w+cm t d y<cm t d x then w+cm t d y else cm t d x)) z=if z=x then(if w+cm t d y<cm t d x then w+cm t d y else cm t d x)else cm t d z:=λz hz=>aiy hB.len hx hz
  have hle:∀z∈ids t,cm t (d.set (plc t x) (if w+cm t d y<cm t d x then w+cm t d y else cm t d x)) z≤cm t d z:=λz hz=>by
   rw[hval z hz]
   split
   ·rename_i e;subst e;split<;>omega
   ·exact Int.le_refl _
  refine⟨⟨by simp[hB.len],λz hz=>Int.le_trans (hle z hz) (hB.le z hz),λz hz hlt=>?_,Int.le_trans (hle to hto) hB.z⟩,hle,λ_=>?_⟩
  ·rw[hval z hz]at hlt ⊢
   split
   ·rename_i e;subst e
    rw[if_pos rfl]at hlt
    split
    ·exact(Wk.one hw).trans (hB.wk y hy h)
    ·rename_i hn;rw[if_neg hn]at hlt;exact hB.wk z hz hlt
   ·rename_i e;rw[if_neg e]at hlt;exact hB.wk z hz hlt
  ·rw[hval x hx,if_pos rfl];split<;>omega
 ·rw[if_neg h]
  exact⟨hB,λz _=>Int.le_refl _,λh'=>absurd h' h⟩
open Classical in
noncomputable def nY(t:aj)(to:Int)(d:List Int)(x:Int):Bool:=decide (∃k,dst (lkC t) x to=some k∧k<cm t d x)
noncomputable def pe(t:aj)(to:Int)(d:List Int):Nat:=((ids t).filter (nY t to d)).length
variable {α:Type}
theorem aba{p q:α→Bool}{l:List α}(h:∀x∈l,q x=true→p x=true):(l.filter q).length≤(l.filter p).length∧∀x∈l,p x=true→q x=false→(l.filter q).length<(l.filter p).length:=by
 induction l with
 |nil=>simp
 |cons y l ih=>
  obtain⟨i1,i2⟩:=ih λx hx=>h x (by simp[hx])
  have hy:=h y (by simp)
  cases hq:q y with
  |true=>
   rw[List.filter_cons_of_pos hq,List.filter_cons_of_pos (hy hq)]
   refine⟨by simpa using i1,λx hx hp hn=>?_⟩
   rcases List.mem_cons.1 hx with rfl|hx
   ·rw[hq]at hn;cases hn
   ·have:=i2 x hx hp hn;simpa using this
  |false=>
   rw[List.filter_cons_of_neg (by simp[hq])]
   cases hp:p y with
   |true=>
    rw[List.filter_cons_of_pos hp]
    simp only[List.length_cons]
    exact⟨by omega,λx hx _ _=>by omega⟩
   |false=>
    rw[List.filter_cons_of_neg (by simp[hp])]
    refine⟨i1,λx hx hp' hn=>?_⟩
    rcases List.mem_cons.1 hx with rfl|hx
    ·rw[hp]at hp';cases hp'
    ·exact i2 x hx hp' hn
theorem rU(hv:Vt t){l:aU}(hl:l∈t.Links):lkC t l.A l.B=some l.dL∧lkC t l.B l.A=some l.ep:=by
 have hlt:=hv.lt l hl
 have hne:l.A≠l.B:=by omega
 constructor
 ·refine lW.2 ⟨oB.2 ⟨l,hl,.inl ⟨rfl,rfl⟩⟩,?_⟩
  rw[lV hv hl (by simp[eX])];simp[iZ]
 ·refine lW.2 ⟨oB.2 ⟨l,hl,.inr ⟨rfl,rfl⟩⟩,?_⟩
  rw[lV hv hl (by simp[eX])];simp[iZ,hne]
variable {k:Int}
theorem xH{g:aj}(hv:Vt g){y:Int}:lkC g x y=some k↔aq.mk (aS.mk x y) k∈ei g:=by
 rw[qx]
 constructor
 ·intro h
  obtain⟨h1,h2⟩:=lW.1 h
  obtain⟨l,hl,h3⟩:=oB.1 h1
  obtain⟨c1,c2⟩:=rU hv hl
  rcases h3 with⟨rfl,rfl⟩|⟨rfl,rfl⟩
  ·rw[c1]at h;cases h
   exact⟨l,hl,.inl rfl⟩
  ·rw[c2]at h;cases h
   exact⟨l,hl,.inr rfl⟩
 ·rintro⟨l,hl,h|h⟩
  ·injection h with h1 h2
   injection h1 with h3 h4
   subst h3;subst h4;subst h2
   exact(rU hv hl).1
  ·injection h with h1 h2
   injection h1 with h3 h4
   subst h3;subst h4;subst h2
   exact(rU hv hl).2
theorem al4{g:aj}(hv:Vt g){y:Int}(h:Con aX (ei g) x y):∃m,Wk (lkC g) x y m:=by
 induction h with
 |refl v=>exact⟨0,.nil⟩
 |step a ha _ ih=>
  obtain⟨m,hm⟩:=ih
  have:lkC g a.Hop.aH a.Hop.To=some a.bO:=(xH hv).2 ha
  exact⟨_,(Wk.one this).trans hm⟩
theorem adT{g:aj}(hv:Vt g){y m:Int}(h:Wk (lkC g) x y m):Con aX (ei g) x y:=by
 induction h with
 |nil=>exact .refl _
 |@snoc x b m k _ hk ih=>exact ih.trans (Con.one (N:=aX) (a:=aq.mk (aS.mk x b) k) ((xH hv).1 hk))
theorem adU{g:aj}(hv:Vt g):∀(n:Nat) (U:List Int) (H:List aq) (x t:Int),U.length=n→(∀a∈H,a∈ei g)→(∀a∈H,a.Hop.aH∈U)→Con aX H x t→∃m,Wk (lkC g) x t m∧m≤1000*(n:Int):=by
 intro n
 induction n with
 |zero=>
  intro U H x t hU hH hf h
  cases h with
  |refl _=>exact⟨0,.nil,by omega⟩
  |step a ha _=>
   have:=hf a ha
   rw[List.eq_nil_of_length_eq_zero hU]at this
   cases this
 |succ n ih=>
  intro U H x t hU hH hf h
  by_cases hxt:x=t
  ·subst hxt;exact⟨0,.nil,by omega⟩
  ·obtain⟨e,he,hs,hc⟩:=uE h hxt
   have hs:e.Hop.aH=x:=hs
   have heU:=hf e he
   rw[hs]at heU
   obtain⟨m,h1,h2⟩:=ih (U.erase x) _ e.Hop.To t (by rw[List.length_erase_of_mem heU];omega) (λa ha=>hH a (List.mem_filter.1 ha).1) (λa ha=>by
    obtain⟨q1,q2⟩:=List.mem_filter.1 ha
    have q3:¬aX.src a=x:=by simpa using q2
    exact(List.mem_erase_of_ne q3).2 (hf a q1)) hc
   have hk:lkC g x e.Hop.To=some e.bO:=by rw[←hs];exact(xH hv).2 (hH e he)
   have:=(xF hv hk).2
   exact⟨_,(Wk.one hk).trans h1,by omega⟩
variable {a b:Int}
theorem uN(hv:Vt t)(ha:a∈ids t)(h:dst (lkC t) a b=some k):0≤k∧k≤24000:=by
 obtain⟨m,h1,h2⟩:=adU hv _ (ids t) (ei t) a b rfl (λa ha=>ha) (λa ha=>(pX hv ((xH hv).2 ha)).1) (adT hv (gf.1 h).1)
 have h3:=(gf.1 h).2 _ h1
 have h4:=hv.nr
 have h5:(ids t).length=t.ak.length:=by simp[ids]
 exact⟨tC (pW hv) h,by omega⟩
theorem acH(hv:Vt t){d':List Int}(hB:Bf t to d)(hle:∀z∈ids t,cm t d' z≤cm t d z)
  (hr:∀l∈t.Links,(cm t d l.B<1073741824→cm t d' l.A≤l.dL+cm t d l.B)∧(cm t d l.A<1073741824→cm t d' l.B≤l.ep+cm t d l.A)):pe t to d'≤pe t to d∧(pe t to d≠0→pe t to d'<pe t to d):=by
 have hmono:∀x∈ids t,nY t to d' x=true→nY t to d x=true:=λx hx h=>by
  simp only[nY,decide_eq_true_eq]at h ⊢
  obtain⟨k,h1,h2⟩:=h
  exact⟨k,h1,by have:=hle x hx;omega⟩
 obtain⟨f1,f2⟩:=aba hmono
 refine⟨f1,λhne=>?_⟩
 have ex:∀(n:Nat) (x k:Int),k.toNat=n→x∈ids t→dst (lkC t) x to=some k→k<cm t d x→∃x k,x∈ids t∧dst (lkC t) x to=some k∧k<cm t d x∧∀y m,y∈ids t→dst (lkC t) y to=some m→m<k→cm t d y≤m:=by
  intro n
  induction n using Nat.strongRecOn with
  |_ n ih=>
   intro x k hn hx h1 h2
   by_cases hall:∀y m,y∈ids t→dst (lkC t) y to=some m→m<k→cm t d y≤m
   ·exact⟨x,k,hx,h1,h2,hall⟩
   ·have:∃y m,y∈ids t∧dst (lkC t) y to=some m∧m<k∧m<cm t d y:=by
     refine Classical.byContradiction λhc=>hall λy m q1 q2 q3=>?_
     by_cases q:cm t d y≤m
     ·exact q
     ·exact absurd ⟨y,m,q1,q2,q3,by omega⟩ hc
    obtain⟨y,m,q1,q2,q3,q4⟩:=this
    have:=tC (pW hv) q2
    exact ih m.toNat (by omega) y m rfl q1 q2 q4
 have:∃x,x∈(ids t).filter (nY t to d):=by
  cases hf:(ids t).filter (nY t to d)with
  |nil=>exact absurd (by unfold pe;rw[hf];rfl) hne
  |cons x r=>exact⟨x,by simp⟩
 obtain⟨x0,hx0⟩:=this
 obtain⟨m1,m2⟩:=List.mem_filter.1 hx0
 simp only[nY,decide_eq_true_eq]at m2
 obtain⟨k0,m3,m4⟩:=m2
 obtain⟨x,k,x1,x2,x3,x4⟩:=ex _ x0 k0 rfl m1 m3 m4
 refine f2 x x1 (by simp only[nY,decide_eq_true_eq];exact⟨k,x2,x3⟩) ?_
 simp only[nY,decide_eq_false_iff_not]
 rintro⟨k',y1,y2⟩
 rw[x2]at y1;cases y1
 have hxt:x≠to:=λe=>by
  subst e
  have:=tC (pW hv) x2
  have:=hB.z
  omega
 obtain⟨y,w,m,z1,z2,z3⟩:=adS x2 hxt
 obtain⟨_,hy⟩:=pX hv z1
 have hw:=xF hv z1
 have hvy:=x4 y m hy z2 (by omega)
 have hsm:=uN hv hy z2
 obtain⟨l,hl,he⟩:=oB.1 (lW.1 z1).1
 have hlt:=hv.lt l hl
 rcases he with⟨rfl,rfl⟩|⟨rfl,rfl⟩
 ·have hc:w=l.dL:=by
   rw[←(lW.1 z1).2,lV hv hl (by simp[eX])];simp[iZ]
  have:=(hr l hl).1 (by omega)
  omega
 ·have hc:w=l.ep:=by
   have:l.A≠l.B:=by omega
   rw[←(lW.1 z1).2,lV hv hl (by simp[eX])];simp[iZ,this]
  have:=(hr l hl).2 (by omega)
  omega
structure ToP(t:aj)(to:Int)(d:List Int):Prop where
 len:d.length=t.ak.length
 val:∀x∈ids t,cm t d x=(dst (lkC t) x to).getD 1073741824
theorem al5(hv:Vt t)(hto:to∈ids t):Ok (nV t to) (ToP t to):=by
 have hn:t.ak.length≤24:=hv.nr
 unfold nV
 refine Ok.chk (by simp;omega) ?_
 refine Ok.whl (λ(s:List Int×Int)=>s.1.length=t.ak.length∧0≤s.2∧s.2≤(t.ak.length:Int)∧∀j:Nat,(j:Int)<s.2→s.1[j]?=((ids t)[j]?).map λy=>if y=to then 0 else 1073741824) (λ(s:List Int×Int)=>((t.ak.length:Int)-s.2).toNat) (s:=(List.replicate ((t.ak.length:Int)).toNat (0:Int),(0:Int))) ⟨by simp,Int.le_refl _,by simp,λj hj=>by simp at hj;omega⟩ (by simp;omega) ?_
 rintro⟨d,i⟩ Z ⟨i1,i2,i3,i4⟩ hZ
 simp only at i1 i2 i3 i4 hZ ⊢
 refine Ok.cs (λh1=>?_) λh1=>?_
 ·have hi:i<d.length:=of_decide_eq_true h1
  refine Ok.jn (λd2=>d2.length=t.ak.length∧∀j:Nat,(j:Int)<i+1→d2[j]?=((ids t)[j]?).map λy=>if y=to then 0 else 1073741824) (λd2 hd2=>?_) λJ hJ=>?_
  ·rw[aaR (by omega) (by omega)]
   exact hZ (d2,i+1) ⟨hd2.1,by omega,by omega,hd2.2⟩ (by simp only;omega)
  refine Ok.bnd (jq i2 (by omega)) λ_ _=>Ok.bnd (aaC i2 hi) λl1 hl1=>Ok.bnd (jq i2 (by omega)) λe he=>?_
  have hid:(ids t)[i.toNat]?=some e.ID:=by simp[ids,he.2]
  obtain⟨rfl,hl2⟩:=hl1
  have agT:∀(v:Int) (l:List Int),l=d.set i.toNat v→v=(if e.ID=to then 0 else 1073741824)→l.length=t.ak.length∧∀j:Nat,(j:Int)<i+1→l[j]?=((ids t)[j]?).map λy=>if y=to then 0 else 1073741824:=by
   rintro v l rfl hvv
   refine⟨by simpa using i1,λj hj=>?_⟩
   rw[List.getElem?_set]
   by_cases e1:i.toNat=j
   ·subst e1;rw[if_pos rfl,if_pos (by omega),hid,hvv];rfl
   ·rw[if_neg e1];exact i4 j (by omega)
  refine Ok.cs (λh2=>?_) λh2=>?_
  ·refine Ok.bnd (jq i2 (by simpa using hi)) λ_ _=>Ok.bnd (aaC i2 (by simpa using hi)) λl2 hl3=>hJ l2 (agT 0 l2 (by rw[hl3.1,List.set_set]) (by rw[if_pos (of_decide_eq_true h2)]))
  ·exact hJ _ (agT 1073741824 _ rfl (by rw[if_neg (of_decide_eq_false h2)]))
 have hi:i=(t.ak.length:Int):=by have:=of_decide_eq_false h1;omega
 subst hi
 have hv0:∀x∈ids t,cm t d x=if x=to then 0 else 1073741824:=λx hx=>by
  have hp:=xG hx
  have:=i4 (plc t x) (by omega)
  rw[show(ids t)[plc t x]?=some x by
   unfold plc
   rw[List.getElem?_eq_getElem (List.idxOf_lt_length_of_mem hx)]
   exact congrArg some (List.getElem_idxOf _)]at this
  unfold cm
  rw[List.getD_eq_getElem?_getD,this];rfl
 have hB0:Bf t to d:=⟨i1,λx hx=>by rw[hv0 x hx];split<;>omega,λx hx h=>by
  rw[hv0 x hx]at h ⊢
  split
  ·rename_i e;subst e;exact .nil
  ·rename_i e;rw[if_neg e]at h;omega,by rw[hv0 to hto,if_pos rfl];exact Int.le_refl _⟩
 have hbad:pe t to d≤t.ak.length:=by
  have:=List.length_filter_le (nY t to d) (ids t)
  simpa [pe,ids]using this
 refine Ok.whl (λ(s:List Int×Int)=>Bf t to s.1∧0≤s.2∧s.2≤(t.ak.length:Int)∧(pe t to s.1:Int)+s.2≤(t.ak.length:Int)) (λ(s:List Int×Int)=>((t.ak.length:Int)-s.2).toNat) (s:=(d,(0:Int))) ⟨hB0,Int.le_refl _,by simp,by simp;omega⟩ (by simp;omega) ?_
 rintro⟨d,round⟩ Z ⟨j1,j2,j3,j4⟩ hZ
 simp only at j1 j2 j3 j4 hZ ⊢
 refine Ok.cs (λh1=>?_) λh1=>.s ?_
 ·have hr:round<(t.ak.length:Int):=by have:=of_decide_eq_true h1;rw[j1.len]at this;exact this
  refine Ok.tu (λp d'=>Bf t to d'∧(∀z∈ids t,cm t d' z≤cm t d z)∧∀l∈p,(cm t d l.B<1073741824→cm t d' l.A≤l.dL+cm t d l.B)∧(cm t d l.A<1073741824→cm t d' l.B≤l.ep+cm t d l.A)) ?_ _ ⟨j1,λ_ _=>Int.le_refl _,by simp⟩ ?_
  ·rintro p l r d4 Z2 hL ⟨k1,k2,k3⟩ hZ2
   have hl:l∈t.Links:=by rw[hL];simp
   obtain⟨c1,c2⟩:=rU hv hl
   obtain⟨a1,a2⟩:=pX hv c1
   obtain⟨r1,r2,r3⟩:=aaS hv hto k1 c1
   obtain⟨s1,s2,s3⟩:=aaS hv hto r1 c2
   have q1:=zl (β:=List Int) hv k1 a1 a2 (xF hv c1)
   have q2:=zl (β:=List Int) hv r1 a2 a1 (xF hv c2)
   have final:=hZ2 (oI t (oI t d4 l.A l.B l.dL) l.B l.A l.ep) ⟨s1,λz hz=>Int.le_trans (s2 z hz) (Int.le_trans (r2 z hz) (k2 z hz)),λm hm=>by
    rcases List.mem_append.1 hm with hm|hm
    ·obtain⟨u1,u2⟩:=k3 m hm
     have hm2:m∈t.Links:=by rw[hL];simp[hm]
     obtain⟨b1,b2⟩:=pX hv (rU hv hm2).1
     exact⟨λh=>by have:=u1 h;have:=s2 _ b1;have:=r2 _ b1;omega,λh=>by have:=u2 h;have:=s2 _ b2;have:=r2 _ b2;omega⟩
    ·rw[List.mem_singleton.1 hm]
     refine⟨λh=>?_,λh=>?_⟩
     ·have e1:=k2 _ a2
      have e2:=r3 (by omega)
      have e3:=s2 _ a1
      omega
     ·have e1:=k2 _ a1
      have e2:=r2 _ a1
      have e3:=s3 (by omega)
      omega⟩
   rw[zk a1,zk a2]
   refine Eq.mpr (congrArg (λo=>Ok o (ToP t to)) ?_) final
   refine(q1 _).trans ?_
   exact q2 _
  ·rintro d' ⟨k1,k2,k3⟩
   rw[aaR (by omega) (by omega)]
   obtain⟨n1,n2⟩:=acH hv j1 k2 k3
   refine hZ (d',round+1) ⟨k1,by omega,by omega,?_⟩ (by simp only;omega)
   by_cases hz:pe t to d=0
   ·simp only;omega
   ·have:=n2 hz;simp only;omega
 ·have hr:round=(t.ak.length:Int):=by have:=of_decide_eq_false h1;rw[j1.len]at this;omega
  have hb:pe t to d=0:=by omega
  refine⟨j1.len,λx hx=>?_⟩
  have hnb:nY t to d x=false:=by
   cases hq:nY t to d x with
   |false=>rfl
   |true=>
    have:x∈(ids t).filter (nY t to d):=List.mem_filter.2 ⟨hx,hq⟩
    have:=List.length_pos_of_mem this
    unfold pe at hb;omega
  simp only[nY,decide_eq_false_iff_not]at hnb
  cases hd:dst (lkC t) x to with
  |some k=>
   have hsm:=uN hv hx hd
   have h1:cm t d x≤k:=by
    by_cases q:cm t d x≤k
    ·exact q
    ·exact absurd ⟨k,hd,by omega⟩ hnb
   have h2:=(gf.1 hd).2 _ (j1.wk x hx (by omega))
   simp only[Option.getD_some];omega
  |none=>
   simp only[Option.getD_none]
   have h1:=j1.le x hx
   by_cases q:cm t d x<1073741824
   ·exact absurd (j1.wk x hx q) ((afD (pW hv)).1 hd _)
   ·omega
open Classical in
noncomputable def dT(t:aj)(a b:Int):Option Int:=if gr t=0∧a∈ids t∧b∈ids t then dst (lkC t) a b else none
theorem agU(hv:Vt t)(ha:a∈ids t)(hb:b∈ids t):dT t a b=dst (lkC t) a b:=by
 unfold dT;rw[if_pos ⟨lU.2 hv,ha,hb⟩]
theorem al6(h:dT t a b=some k):Vt t∧a∈ids t∧b∈ids t∧dst (lkC t) a b=some k:=by
 unfold dT at h
 split at h
 ·rename_i hc;exact⟨lU.1 hc.1,hc.2.1,hc.2.2,h⟩
 ·cases h
theorem adV(h:¬(gr t=0∧a∈ids t∧b∈ids t)):dT t a b=none:=by unfold dT;rw[if_neg h]
theorem afF(h:dT t a b=some k):0≤k∧k≤24000:=by
 obtain⟨hv,ha,hb,hd⟩:=al6 h
 exact uN hv ha hd
noncomputable def tD(t:aj)(a b:Int):Int×Bool:=((dT t a b).getD 0,(dT t a b).isSome)
theorem aoL(hv:Vt t)(hto:to∈ids t)(hd:ToP t to d)(x:Int):l7 t d x=some ((dT t x to).getD 1073741824):=by
 rw[al3]
 by_cases hx:x∈ids t
 ·rw[if_pos hx,yD hd.len hx,hd.val x hx,agU hv hx hto]
 ·rw[if_neg hx,adV λe=>hx e.2.1];rfl
theorem abE{r:Int}:hasB t r=decide (r∈ids t):=by
 by_cases h:r∈ids t
 ·rw[decide_eq_true h,iH.1 h]
 ·rw[decide_eq_false h]
  cases hh:hasB t r with
  |false=>rfl
  |true=>exact absurd (iH.2 hh) h
theorem afG(t:aj)(a b:Int)(k:Bool→Option α):(jn k λJ=>bnd (fB t a) λ(v1:Bool)=>bif !v1 then J true else bnd (fB t b) λ(v2:Bool)=>J (!v2))=k (!decide (gr t=0∧a∈ids t∧b∈ids t)):=by
 simp only[jn]
 rw[rS,rS,aP,abE,abE]
 by_cases h:gr t=0<;>by_cases h1:a∈ids t<;>by_cases h2:b∈ids t<;>simp[h,h1,h2,bnd]
theorem adW(t:aj)(a b:Int):lQ t a b=some (tD t a b):=by
 unfold lQ
 refine(afG t a b _).trans ?_
 by_cases h:gr t=0∧a∈ids t∧b∈ids t
 ·have hv:=lU.1 h.1
  obtain⟨d,h1,h2⟩:=al5 hv h.2.2
  rw[decide_eq_true h]
  simp only[Bool.not_true,cond_false]
  rw[h1,aP,aoL hv h.2.2 h2,aP]
  unfold tD
  cases hd:dT t a b with
  |none=>rfl
  |some k=>
   have:=afF hd
   simp only[Option.getD_some,Option.isSome_some]
   rw[decide_eq_false (by omega)];rfl
 ·rw[decide_eq_false h]
  unfold tD
  rw[adV h];rfl
end Go.Proofs.YtmnbolcmepihlaaGreat
namespace Go.Proofs.YtmnbolcmepihlaaGreat
set_option linter.all false
open Go
theorem yE{f:Int→Int}:∀(b:List Int) (i:Nat),i<b.length→∀x,((b.set i x).map f).sum=(b.map f).sum-f (b.getD i 0)+f x
 |[],_,h,_=>by simp at h
 |y::b,0,_,x=>by simp;omega
 |y::b,i+1,h,x=>by
  have:=yE (f:=f) b i (by simpa using h) x
  simp only[List.set_cons_succ,List.map_cons,List.sum_cons,List.getD_cons_succ]
  omega
theorem yF{f:Int→Int}{m:Int}(h:∀x,0≤f x∧f x≤m):∀b:List Int,0≤(b.map f).sum∧(b.map f).sum≤m*b.length
 |[]=>by simp
 |y::b=>by
  have h1:=yF h b
  have h2:=h y
  simp only[List.map_cons,List.sum_cons,List.length_cons,Int.natCast_add,Int.mul_add]
  omega
theorem pN{b:List Int}{i:Nat}(hi:i<b.length)(x:Int)(v:Nat):(b.set i x).getD v 0=if v=i then x else b.getD v 0:=by
 rw[List.getD_eq_getElem?_getD,List.getD_eq_getElem?_getD,List.getElem?_set]
 by_cases h:v=i
 ·subst h;simp[hi]
 ·rw[if_neg h,if_neg λe=>h e.symm]
abbrev FAR:Int:=1099511627776
def pg(x:Int):Int:=if x<FAR then 1 else 0
def uO(x:Int):Int:=if x<FAR then(if x<0 then 0 else if x<4000000 then x else 4000000)else 5000000
def fin(b:List Int):Int:=(b.map pg).sum
theorem rV(b:List Int):0≤fin b∧fin b≤b.length:=by
 have:=yF (f:=pg) (m:=1) (λx=>by unfold pg;split<;>omega) b
 unfold fin
 omega
theorem aiz{b:List Int}{i:Nat}(hi:i<b.length)(x:Int):fin (b.set i x)=fin b-pg (b.getD i 0)+pg x:=yE b i hi x
def ent(cs:List (List Int))(u v:Nat):Int:=(cs.getD u []).getD v 0
structure yG(V:List Int)(L:List aq)(cs:List (List Int)):Prop where
 nd:V.Nodup
 le:V.length≤24
 len:cs.length=V.length
 row:∀u,u<V.length→(cs.getD u []).length=V.length
 arc:∀a∈L,a.Hop.aH∈V∧a.Hop.To∈V∧ent cs (V.idxOf a.Hop.aH) (V.idxOf a.Hop.To)=a.bO∧1≤a.bO∧a.bO≤1000
 hop:∀u v,u<V.length→v<V.length→0<ent cs u v→aq.mk (aS.mk (V.getD u 0) (V.getD v 0)) (ent cs u v)∈L
theorem lX{V:List Int}{x:Int}(hx:x∈V):V.getD (V.idxOf x) 0=x:=by
 have h:=List.idxOf_lt_length_of_mem hx
 rw[List.getD_eq_getElem?_getD,List.getElem?_eq_getElem h]
 exact List.getElem_idxOf h
theorem yG.le1{V:List Int}{L:List aq}{cs:List (List Int)}(h:yG V L cs){u v:Nat}(hu:u<V.length)(hv:v<V.length)(he:0<ent cs u v):ent cs u v≤1000:=(h.arc _ (h.hop u v hu hv he)).2.2.2.2
section tab
variable {V:List Int}{L:List aq}{cs:List (List Int)}{ts:List Int}
structure nZ(V:List Int)(L:List aq)(ts:List Int)(S:Nat)(b:List Int):Prop where
 len:b.length=V.length
 bd:∀v,v<V.length→0≤b.getD v 0∧b.getD v 0≤FAR
 ok:∀v,v<V.length→b.getD v 0<FAR→b.getD v 0≤48000*S-48000+1000*fin b∧∃H,Trk aX L ts.length (λi=>ts.getD i 0) S (V.getD v 0) H∧cz aX H=b.getD v 0
structure tE(V:List Int)(L:List aq)(cs:List (List Int))(ts:List Int)(rows:List (List Int))(S:Nat)(b:List Int):Prop where
 s:nZ V L ts S b
 one:∀i,i<ts.length→S=2 ^ i→b.getD (V.idxOf (ts.getD i 0)) 0≤0
 hop:∀u v,u<V.length→v<V.length→0<ent cs u v→b.getD u 0≤ent cs u v+b.getD v 0
 part:∀P R,0<P→0<R→P &&& R=0→P ||| R=S→∀v,v<V.length→b.getD v 0≤(rows.getD P []).getD v 0+(rows.getD R []).getD v 0
theorem nZ.put{S:Nat}{b:List Int}(h:nZ V L ts S b){u:Nat}(hu:u<V.length){c:Int}(h0:0≤c)(hc:c<FAR)(hb:c≤48000*S-48000+1000*fin b∨c≤48000*S-48000+1000*fin b+1000∧FAR≤b.getD u 0∨∃v,v<V.length∧v≠u∧b.getD v 0<FAR∧c≤b.getD v 0+1000∧c≤b.getD u 0)
  (hT:∃H,Trk aX L ts.length (λi=>ts.getD i 0) S (V.getD u 0) H∧cz aX H=c):nZ V L ts S (b.set u c):=by
 have hub:u<b.length:=by rw[h.len];exact hu
 have hbu:=h.bd u hu
 have hfs:=aiz hub c
 have hfc:pg c=1:=by unfold pg;rw[if_pos hc]
 have hge:fin b≤fin (b.set u c):=by
  rw[hfs,hfc]
  unfold pg
  split<;>omega
 refine⟨by rw[List.length_set];exact h.len,λv hv=>?_,λv hv uy=>?_⟩
 ·rw[pN hub]
  split
  ·omega
  ·exact h.bd v hv
 ·rw[pN hub]at uy ⊢
  by_cases e:v=u
  ·subst e
   rw[if_pos rfl]
   refine⟨?_,hT⟩
   rcases hb with hb|⟨hb,hf⟩|⟨w,w1,w2,w3,w4,w5⟩
   ·omega
   ·have:pg (b.getD v 0)=0:=by unfold pg;rw[if_neg (by omega)]
    omega
   ·by_cases hf:b.getD v 0<FAR
    ·have:=(h.ok v hv hf).1;omega
    ·have:pg (b.getD v 0)=0:=by unfold pg;rw[if_neg hf]
     have:=(h.ok w w1 w3).1
     omega
  ·rw[if_neg e]at uy ⊢
   obtain⟨h1,h2⟩:=h.ok v hv uy
   exact⟨by omega,h2⟩
theorem tE.le{rows:List (List Int)}{S:Nat}{b:List Int}(hV:V.length≤24)(h:tE V L cs ts rows S b){v:Nat}(hv:v<V.length)(hf:b.getD v 0<FAR):b.getD v 0≤48000*S-24000:=by
 have h1:=(h.s.ok v hv hf).1
 have h2:=(rV b).2
 have h3:=h.s.len
 omega
theorem nZ.step{S:Nat}{b:List Int}(hM:yG V L cs)(h:nZ V L ts S b){u v:Nat}(hu:u<V.length)(hv:v<V.length)(he:0<ent cs u v)(hlt:ent cs u v+b.getD v 0<b.getD u 0):nZ V L ts S (b.set u (ent cs u v+b.getD v 0)):=by
 have h1:=hM.le1 hu hv he
 have h2:=h.bd v hv
 have h3:=h.bd u hu
 have hf:b.getD v 0<FAR:=by omega
 obtain⟨h4,H,h5,h6⟩:=h.ok v hv hf
 refine h.put hu (by omega) (by omega) (.inr (.inr ⟨v,hv,λe=>by subst e;omega,hf,by omega,by omega⟩)) ⟨_,Trk.hop (N:=aX) _ (hM.hop u v hu hv he) h5,?_⟩
 rw[fR,h6];rfl
theorem nZ.join{rows:List (List Int)}{P R S:Nat}{b p r:List Int}(hV:V.length≤24)(h:nZ V L ts S b)(hP:tE V L cs ts rows P p)(hR:tE V L cs ts rows R r)(h0:P &&& R=0)(ho:P ||| R=S)(hs:P+R=S){v:Nat}(hv:v<V.length)(hlt:p.getD v 0+r.getD v 0<b.getD v 0):nZ V L ts S (b.set v (p.getD v 0+r.getD v 0)):=by
 have h1:=hP.s.bd v hv
 have h2:=hR.s.bd v hv
 have h3:=h.bd v hv
 have f1:p.getD v 0<FAR:=by omega
 have f2:r.getD v 0<FAR:=by omega
 obtain⟨_,H,a1,a2⟩:=hP.s.ok v hv f1
 obtain⟨_,K,b1,b2⟩:=hR.s.ok v hv f2
 have c1:=hP.le hV hv f1
 have c2:=hR.le hV hv f2
 have hf:=(rV b).1
 refine h.put hv (by omega) (by omega) (.inl (by omega)) ⟨H++K,?_,by rw[vJ,a2,b2]⟩
 have:=Trk.part (N:=aX) h0 a1 b1
 rwa [ho]at this
def k9(b:List Int):Int:=(b.map uO).sum
theorem yH(b:List Int):0≤k9 b∧k9 b≤5000000*b.length:=yF (λx=>by unfold uO;split;split;omega;split<;>omega;omega) b
theorem afH{S:Nat}(hS:S≤64){b:List Int}(hV:V.length≤24)(h:nZ V L ts S b){u:Nat}(hu:u<V.length){c:Int}(h0:0≤c)(hlt:c<b.getD u 0)(h':nZ V L ts S (b.set u c)):k9 (b.set u c)<k9 b:=by
 have hub:u<b.length:=by rw[h.len];exact hu
 have h1:=h.bd u hu
 have hfb:=(rV b).2
 have hfb':=(rV (b.set u c)).2
 have hl':=h'.len
 have hc:=h'.ok u hu (by rw[pN hub,if_pos rfl];omega)
 rw[pN hub,if_pos rfl]at hc
 have hc1:=hc.1
 have hl:=h.len
 unfold k9
 rw[yE b u hub]
 have e1:uO c=c:=by unfold uO;rw[if_pos (by omega),if_neg (by omega),if_pos (by omega)]
 rw[e1]
 by_cases hf:b.getD u 0<FAR
 ·have h2:=(h.ok u hu hf).1
  have e2:uO (b.getD u 0)=b.getD u 0:=by unfold uO;rw[if_pos hf,if_neg (by omega),if_pos (by omega)]
  rw[e2];omega
 ·have e2:uO (b.getD u 0)=5000000:=by unfold uO;rw[if_neg hf]
  rw[e2];omega
structure al7(V:List Int)(L:List aq)(cs:List (List Int))(ts:List Int)(rows:List (List Int))(n:Nat):Prop where
 len:n≤rows.length
 row:∀S,0<S→S<n→tE V L cs ts rows S (rows.getD S [])
theorem adX{rows:List (List Int)}(hM:yG V L cs)(ht:∀t∈ts,t∈V)(h:al7 V L cs ts rows (2 ^ ts.length)){root:Int}(hr:root∈V)(h1:0<ts.length):
  (∀K,(∀a∈K,a∈L)→(∀t,t∈ts→Con aX K root t)→(rows.getD (2 ^ ts.length-1) []).getD (V.idxOf root) 0≤cz aX K)∧
  ((rows.getD (2 ^ ts.length-1) []).getD (V.idxOf root) 0<FAR→∃H,(∀a∈H,a∈L)∧(∀t,t∈ts→Con aX H root t)∧cz aX H=(rows.getD (2 ^ ts.length-1) []).getD (V.idxOf root) 0):=by
 have hp1:2 ^ 1≤2 ^ ts.length:=Nat.pow_le_pow_right (by omega) h1
 have hix:∀{x},x∈V→V.idxOf x<V.length:=λhx=>List.idxOf_lt_length_of_mem hx
 constructor
 ·intro K hK hc
  let C:Nat→Int→Int:=λS v=>@ite _ (v∈V) (Classical.propDecidable _) ((rows.getD S []).getD (V.idxOf v) 0) 0
  have hC:∀S {v},v∈V→C S v=(rows.getD S []).getD (V.idxOf v) 0:=λS v hv=>if_pos hv
  have afn:Low aX L ts.length (λi=>ts.getD i 0) C:=by
   refine⟨λa ha=>by have:=(hM.arc a ha).2.2.2.1;show 0≤a.bO;omega,λi hi=>?_,λS h0 hS a ha=>?_,λS P R hS hP hR h0 ho v=>?_⟩
   ·have hm:ts.getD i 0∈V:=ht _ (by rw[List.getD_eq_getElem?_getD,List.getElem?_eq_getElem hi];exact List.getElem_mem hi)
    rw[hC _ hm]
    exact(h.row (2 ^ i) (Nat.two_pow_pos i) (Nat.pow_lt_pow_right (by omega) hi)).one i hi rfl
   ·obtain⟨a1,a2,a3,a4,_⟩:=hM.arc a ha
    have hD:=h.row S h0 hS
    have:=hD.hop _ _ (hix a1) (hix a2) (by rw[a3];omega)
    rw[a3]at this
    show C S a.Hop.aH≤a.bO+C S a.Hop.To
    rw[hC _ a1,hC _ a2]
    exact this
   ·have hD:=h.row S (Nat.lt_of_lt_of_le hP (by rw[←ho];exact Nat.left_le_or)) hS
    by_cases hv:v∈V
    ·rw[hC _ hv,hC _ hv,hC _ hv]
     exact hD.part P R hP hR h0 ho _ (hix hv)
    ·simp only[C]
     rw[if_neg hv,if_neg hv,if_neg hv];omega
  have:=afn.le K.length K (Nat.le_refl _) hK (2 ^ ts.length-1) (by omega) (by omega) root (xC.2 hc)
  rwa [hC _ hr]at this
 ·intro hf
  obtain⟨_,H,h2,h3⟩:=(h.row (2 ^ ts.length-1) (by omega) (by omega)).s.ok _ (hix hr) hf
  rw[lX hr]at h2
  exact⟨H,h2.sub,xC.1 h2.cov,h3⟩
end tab
end Go.Proofs.YtmnbolcmepihlaaGreat
namespace Go.Proofs.YtmnbolcmepihlaaGreat
set_option linter.all false
open Go
variable {x:Int}
theorem aaT{g:aj}(hv:Vt g){y:Int}(hx:x∈ids g)(hy:y∈ids g):(tD g x y).2=true↔Con aX (ei g) x y:=by
 unfold tD
 simp only
 rw[agU hv hx hy]
 constructor
 ·intro h
  obtain⟨k,hk⟩:=Option.isSome_iff_exists.1 h
  exact adT hv (gf.1 hk).1
 ·intro h
  obtain⟨m,hm⟩:=al4 hv h
  obtain⟨k,hk,_⟩:=al2 (pW hv) hm
  rw[hk];rfl
variable {hs:List aS}
theorem aiA{Hs:List aq}(hp:hs.Perm (Hs.map (·.Hop))){root:Int}(h:Con aX Hs root x):Rch root hs x:=by
 have:∀{y x:Int},Con aX Hs y x→Rch root hs y→Rch root hs x:=λ{y x} h=>by
  induction h with
  |refl v=>exact id
  |step a ha _ ih=>exact λhr=>ih (Rch.step a.Hop (hp.mem_iff.2 (List.mem_map.2 ⟨a,ha,rfl⟩)) hr)
 exact this h .root
theorem yI{g:aj}(hv:Vt g){a:aq}(ha:a∈ei g):a.Hop.aH∈ids g∧a.Hop.To∈ids g:=by
 obtain⟨k,hk,h⟩:=qx.1 ha
 have:=hv.ends k hk
 rcases h with rfl|rfl
 ·exact⟨iH.2 this.1,iH.2 this.2⟩
 ·exact⟨iH.2 this.2,iH.2 this.1⟩
theorem vn{g:aj}(hv:Vt g)(hx:x∈ids g):1≤x∧x≤99:=by
 obtain⟨r,hr,rfl⟩:=List.mem_map.1 hx
 exact hv.idr r hr
variable {ay:List aq}{c:Int}{ts:List Int}
theorem aiB{g:aj}(hv:Vt g)(hsub:∀a∈ay,a∈ei g){root:Int}(hr:root∈ids g)(h:rD ay root ts hs c):Vr (bV.mk root hs):=by
 obtain⟨⟨Hs,hO,hc,hp⟩,afI⟩:=h
 have hm:∀h∈hs,∃a∈Hs,a.Hop=h:=λh hh=>by
  obtain⟨a,ha,e⟩:=List.mem_map.1 (hp.mem_iff.1 hh)
  exact⟨a,ha,e⟩
 have hdup:Hs.Pairwise λa b=>a.Hop.To≠b.Hop.To:=by
  have hnd:Hs.Pairwise λa b=>a≠b:=hO.nodup
  exact hnd.imp_of_mem λ{a b} ha hb hab e=>hab (hO.dst ha hb e)
 refine⟨vn hv hr,λh hh=>?_,afI.imp λ{a b} h=>?_,?_,λh hh=>?_,λh hh=>?_⟩
 ·obtain⟨a,ha,rfl⟩:=hm h hh
  have:=yI hv (hsub a (hO.sub a ha))
  exact⟨vn hv this.1,vn hv this.2⟩
 ·rw[fK,fK]at h
  simp only[eD]at h
  simp only[ltH,Bool.or_eq_true,Bool.and_eq_true,decide_eq_true_eq]
  omega
 ·have h2:(Hs.map (·.Hop)).Pairwise λa b=>a.To≠b.To:=List.pairwise_map.2 hdup
  exact(hp.pairwise_iff λ{a b} h=>Ne.symm h).2 h2
 ·obtain⟨a,ha,rfl⟩:=hm h hh
  exact hO.root ha
 ·obtain⟨a,ha,rfl⟩:=hm h hh
  exact aiA hp (hO.rch ha)
theorem acI{root:Int}(h:rD ay root ts hs c){t:Int}(ht:t∈ts):t=root∨∃x∈hs,x.To=t:=by
 obtain⟨⟨Hs,hO,hc,hp⟩,afI⟩:=h
 rcases qq (hO.cov t ht)with h|⟨e,he,h1,_⟩
 ·exact .inl h.symm
 ·exact .inr ⟨e.Hop,hp.mem_iff.2 (List.mem_map.2 ⟨e,he,rfl⟩),h1⟩
theorem acJ{A:Type}[DecidableEq A]{a b:List A}(h:a.Nodup)(hs:∀x∈a,x∈b):a.length≤b.length:=by
 induction a generalizing b with
 |nil=>simp
 |cons x a ih=>
  rw[List.nodup_cons]at h
  have hx:=hs x (by simp)
  have:=ih (b:=b.erase x) h.2 λy hy=>(List.mem_erase_of_ne (λe=>h.1 (by rw[←e];exact hy))).2 (hs y (by simp[hy]))
  rw[List.length_erase_of_mem hx]at this
  have:=List.length_pos_of_mem hx
  simp only[List.length_cons];omega
theorem aaU(hA:kU ay){root:Int}(h:rD ay root ts hs c):hs.length≤1000:=by
 obtain⟨⟨Hs,hO,hc,hp⟩,afI⟩:=h
 have h1:Hs.length≤ay.length:=acJ hO.nodup hO.sub
 have h2:=hp.length_eq
 have h3:=hA.len
 rw[List.length_map]at h2
 omega
end Go.Proofs.YtmnbolcmepihlaaGreat
namespace Go.Proofs.YtmnbolcmepihlaaGreat
set_option linter.all false
open Go
theorem afJ{a b:Nat}(ha:a<2 ^ 60)(hb:b<2 ^ 60):en .xor .i64 (a:Int) (b:Int)=((a ^^^ b:Nat):Int):=by
 have h1:(a ^^^ b)<2 ^ 60:=Nat.xor_lt_two_pow ha hb
 show w64 (((BitVec.ofInt 64 (a:Int) ^^^ BitVec.ofInt 64 (b:Int)).toNat:Nat):Int)=_
 rw[BitVec.ofInt_natCast,BitVec.ofInt_natCast,BitVec.toNat_xor,BitVec.toNat_ofNat,BitVec.toNat_ofNat,Nat.mod_eq_of_lt (by omega),Nat.mod_eq_of_lt (by omega)]
 exact cL (by omega) (by omega)
variable {P S:Nat}
theorem afK(h:P &&& S=P):P &&& (S ^^^ P)=0∧P ||| (S ^^^ P)=S:=by
 have hb:∀i,(P.testBit i&&S.testBit i)=P.testBit i:=λi=>by rw[←Nat.testBit_and,h]
 constructor
 ·apply Nat.eq_of_testBit_eq
  intro i
  have:=hb i
  rw[Nat.testBit_and,Nat.testBit_xor,Nat.zero_testBit]
  revert this
  cases P.testBit i<;>cases S.testBit i<;>simp
 ·apply Nat.eq_of_testBit_eq
  intro i
  have:=hb i
  rw[Nat.testBit_or,Nat.testBit_xor]
  revert this
  cases P.testBit i<;>cases S.testBit i<;>simp
theorem afL{R:Nat}(h0:P &&& R=0)(h:P ||| R=S):R=S ^^^ P∧P &&& S=P:=by
 have hz:∀i,(P.testBit i&&R.testBit i)=false:=λi=>by rw[←Nat.testBit_and,h0,Nat.zero_testBit]
 have ho:∀i,(P.testBit i||R.testBit i)=S.testBit i:=λi=>by rw[←Nat.testBit_or,h]
 constructor
 ·apply Nat.eq_of_testBit_eq
  intro i
  have h1:=hz i
  rw[Nat.testBit_xor,←ho i]
  revert h1
  cases P.testBit i<;>cases R.testBit i<;>simp
 ·apply Nat.eq_of_testBit_eq
  intro i
  rw[Nat.testBit_and,←ho i]
  cases P.testBit i<;>simp
theorem al9{R:Nat}(hP:P<2 ^ 60)(hR:R<2 ^ 60)(h:P &&& R=0):P+R=P ||| R:=by
 have h1:=BitVec.add_eq_or_of_and_eq_zero (BitVec.ofNat 64 P) (BitVec.ofNat 64 R) (by
  apply BitVec.eq_of_toNat_eq
  rw[BitVec.toNat_and,BitVec.toNat_ofNat,BitVec.toNat_ofNat,Nat.mod_eq_of_lt (by omega),Nat.mod_eq_of_lt (by omega),h];rfl)
 have h2:=congrArg BitVec.toNat h1
 have h3:(P ||| R)<2 ^ 60:=Nat.or_lt_two_pow hP hR
 rw[BitVec.toNat_add,BitVec.toNat_or,BitVec.toNat_ofNat,BitVec.toNat_ofNat,Nat.mod_eq_of_lt (a:=P) (by omega),Nat.mod_eq_of_lt (a:=R) (by omega),Nat.mod_eq_of_lt (by omega)]at h2
 exact h2
theorem wN{R:Nat}(h0:P &&& R=0)(h:P ||| R=S)(hP:0<P):R<S:=ni (by rw[Nat.and_comm];exact h0) (by rw[Nat.or_comm];exact h) hP
variable {i:Nat}{α:Type}
theorem elD(d:α){l:List α}(h:i<l.length):elO l (i:Int)=some (l.getD i d):=by
 apply bh
 rw[List.getD_eq_getElem?_getD,List.getElem?_eq_getElem h];rfl
theorem gH(d:α){l:List α}(hi:i<l.length)(x:α)(v:Nat):(l.set i x).getD v d=if v=i then x else l.getD v d:=by
 rw[List.getD_eq_getElem?_getD,List.getD_eq_getElem?_getD,List.getElem?_set]
 by_cases h:v=i
 ·subst h;simp[hi]
 ·rw[if_neg h,if_neg λe=>h e.symm]
theorem afM(d:α){l:List α}(hi:i<l.length):l.set i (l.getD i d)=l:=by
 rw[List.getD_eq_getElem?_getD,List.getElem?_eq_getElem hi]
 exact List.set_getElem_self hi
section tab
variable {V:List Int}{L:List aq}{cs:List (List Int)}{ts:List Int}
theorem tE.congr{rows agV:List (List Int)}{S:Nat}{b:List Int}(h:tE V L cs ts rows S b)(he:∀P,P<S→agV.getD P []=rows.getD P []):tE V L cs ts agV S b:=by
 refine⟨h.s,h.one,h.hop,λP R hP hR h0 ho v hv=>?_⟩
 have h1:=ni h0 ho hR
 have h2:=wN h0 ho hP
 rw[he P h1,he R h2]
 exact h.part P R hP hR h0 ho v hv
structure Way(V:List Int)(L:List aq)(ts:List Int)(rows:List (List Int))(S:Nat)(j:Nat)(p:Nat→Nat→Prop)(b:List Int):Prop where
 len:b.length=V.length
 z:S=0→∀v,v<V.length→b.getD v 0=0
 s:0<S→nZ V L ts S b
 one:∀i,i<j→i<ts.length→S=2 ^ i→b.getD (V.idxOf (ts.getD i 0)) 0≤0
 part:∀P v,p P v→0<P→P<S→P &&& S=P→v<V.length→b.getD v 0≤(rows.getD P []).getD v 0+(rows.getD (S ^^^ P) []).getD v 0
theorem Way.down{rows:List (List Int)}{S j:Nat}{p:Nat→Nat→Prop}{b:List Int}(h:Way V L ts rows S j p b)(hS:0<S){u:Nat}{c:Int}(hu:u<V.length)(hle:c≤b.getD u 0)(hR:nZ V L ts S (b.set u c)):Way V L ts rows S j p (b.set u c):=by
 have hub:u<b.length:=by rw[h.len];exact hu
 have hle2:∀v,(b.set u c).getD v 0≤b.getD v 0:=λv=>by
  rw[pN hub]
  split
  ·rename_i e;subst e;exact hle
  ·exact Int.le_refl _
 exact⟨hR.len,λh0=>by omega,λ_=>hR,λi h1 h2 h3=>Int.le_trans (hle2 _) (h.one i h1 h2 h3),λP v h1 h2 h3 h4 h5=>Int.le_trans (hle2 _) (h.part P v h1 h2 h3 h4 h5)⟩
theorem afN(hM:yG V L cs)(ht:∀t∈ts,t∈V)(hk:ts.length≤6){root:Int}(hr:root∈V):
  Ok (kT cs (V.idxOf root:Int) (ts.map λx=>(V.idxOf x:Int))) (λc=>(ts=[]→c=0)∧(0<ts.length→(∀K,(∀a∈K,a∈L)→(∀t,t∈ts→Con aX K root t)→c≤cz aX K)∧(c<FAR→∃H,(∀a∈H,a∈L)∧(∀t,t∈ts→Con aX H root t)∧cz aX H=c))):=by
 have hFAR:FAR=1099511627776:=rfl
 have hcl:=hM.len
 have hV:=hM.le
 have hn0:0<V.length:=List.length_pos_of_mem hr
 have hix:∀{x},x∈V→V.idxOf x<V.length:=λhx=>List.idxOf_lt_length_of_mem hx
 have hpow:2 ^ ts.length≤64:=Nat.le_trans (Nat.pow_le_pow_right (by omega) hk) (by decide)
 have aoM:1≤2 ^ ts.length:=Nat.one_le_two_pow
 generalize hN:2 ^ ts.length=N at hpow aoM
 have sh:∀i:Nat,i≤6→IntKind.wrap .i64 ((1:Int)*2 ^ min (IntKind.wrap .u64 ((i:Nat):Int)).toNat 64)=((2 ^ i:Nat):Int):=λi hi=>by
  have hp:2 ^ i≤2 ^ 6:=Nat.pow_le_pow_right (by omega) hi
  rw[wrap_u64 (by omega) (by omega),Int.toNat_natCast,Nat.min_eq_left (by omega),Int.one_mul]
  have e:((2:Int) ^ i)=((2 ^ i:Nat):Int):=by simp
  rw[e]
  generalize 2 ^ i=z at hp ⊢
  exact cL (by omega) (by omega)
 unfold kT
 rw[List.length_map,sh _ hk,hN,hcl]
 refine Ok.chk (by rw[wrap_u64 (by omega) (by omega)];simp) (Ok.chk (by simp;omega) (Ok.chk (by simp;omega) ?_))
 have fc:(List.replicate ((N:Nat):Int).toNat []:List (List Int)).length=N:=by simp
 rw[fc]
 refine Ok.gP (λi (m:List (List Int))=>m.length=N∧(∀S:Nat,0<S→(S:Int)<i→tE V L cs ts m S (m.getD S []))∧((0:Int)<i→(m.getD 0 []).length=V.length∧∀v,v<V.length→(m.getD 0 []).getD v 0=0)) 0 (N:Int) ?_ ?_ _ 0 _ (by simp) (by omega) (by omega) ⟨fc,λS h1 h2=>by omega,λh=>by omega⟩
 ·
  intro i m Z hi0 hiN hI hZ
  obtain⟨hml,hrows,hz0⟩:=hI
  obtain⟨S,rfl⟩:=Int.eq_ofNat_of_zero_le hi0
  have hSN:S<N:=by omega
  have hSm:S<m.length:=by omega
  have hSmi:∀b:List Int,S<(m.set S b).length:=λb=>by rw[List.length_set];exact hSm
  have eS:∀b:List Int,elO (m.set S b) (S:Int)=some b:=λb=>by rw[elD [] (hSmi b),gH [] hSm,if_pos rfl]
  have eP:∀(b:List Int) (P:Nat),P<S→elO (m.set S b) (P:Int)=some (m.getD P []):=λb P hP=>by rw[elD [] (by rw[List.length_set];omega),gH [] hSm,if_neg (by omega)]
  have sS:∀b b':List Int,List.set (m.set S b) S b'=m.set S b':=λb b'=>List.set_set ..
  have hrowlen:∀P:Nat,P<S→(m.getD P []).length=V.length:=λP hP=>by
   rcases Nat.eq_zero_or_pos P with h0|h0
   ·subst h0;exact(hz0 (by omega)).1
   ·exact(hrows P h0 (by omega)).s.len
  refine Ok.chk (by simp;omega) ?_
  rw[elD [] hSm,aP,Int.toNat_natCast,Int.toNat_natCast,eS,aP,List.length_replicate]
  refine Ok.chk (by simp;omega) ?_
  refine Ok.gP (λj (m2:List (List Int))=>∃b:List Int,m2=m.set S b∧b.length=V.length∧∀v:Nat,(v:Int)<j→b.getD v 0=if S=0 then 0 else FAR) 0 (V.length:Int) ?_ ?_ _ 0 _ (by simp) (by omega) (by omega) ⟨_,rfl,by simp,λv hv=>by omega⟩
  ·rintro j m2 Z2 hj0 hjn ⟨b,rfl,hbl,hb⟩ hZ2
   obtain⟨u,rfl⟩:=Int.eq_ofNat_of_zero_le hj0
   have hub:u<b.length:=by omega
   refine Ok.jn (λm3=>∃b:List Int,m3=m.set S b∧b.length=V.length∧∀v:Nat,(v:Int)<(u:Int)+1→b.getD v 0=if S=0 then 0 else FAR) (λm3 h3=>hZ2 m3 h3) λJ hJ=>?_
   rw[eS,aP,elD 0 hub,aP,Int.toNat_natCast,sS]
   have ew:∀(b':List Int) (x:Int),b'.length=V.length→(∀v:Nat,v<u→b'.getD v 0=b.getD v 0)→x=(if S=0 then 0 else FAR)→∀v:Nat,(v:Int)<(u:Int)+1→(b'.set u x).getD v 0=if S=0 then 0 else FAR:=λb' x h1 h2 hx v hv=>by
    rw[pN (by omega)]
    split
    ·exact hx
    ·rw[h2 v (by omega)];exact hb v (by omega)
   refine Ok.cs (λhc=>?_) λhc=>?_
   ·have hS0:S=0:=by have:=of_decide_eq_true hc;omega
    rw[eS,aP,elD 0 (by rw[List.length_set];exact hub),aP,sS]
    exact hJ _ ⟨_,rfl,by simpa using hbl,ew _ 0 (by simpa using hbl) (λv hv=>by rw[pN hub,if_neg (by omega)]) (by rw[if_pos hS0])⟩
   ·have hS0:¬S=0:=by have:=of_decide_eq_false hc;omega
    exact hJ _ ⟨_,rfl,by simpa using hbl,ew b _ hbl (λ_ _=>rfl) (by rw[if_neg hS0])⟩
  ·rintro j m2 hj0 hjn ⟨b,rfl,hbl,hb⟩
   have hj:=hjn (by omega)
   subst hj
   have hb0:∀v,v<V.length→b.getD v 0=if S=0 then 0 else FAR:=λv hv=>hb v (by omega)
   have fL:(ts.map λx=>(V.idxOf x:Int)).length=ts.length:=List.length_map ..
   refine Ok.tu (L:=ts.map λx=>(V.idxOf x:Int)) (λp (m4:List (List Int))=>∃b,m4=m.set S b∧Way V L ts m S p.length (λ_ _=>False) b) ?_ _ ⟨b,rfl,hbl,λh0 v hv=>by rw[hb0 v hv,if_pos h0],λh0=>⟨hbl,λv hv=>by rw[hb0 v hv,if_neg (by omega)];omega,λv hv hlt=>by rw[hb0 v hv,if_neg (by omega)]at hlt;omega⟩,λi hi=>by simp at hi,λP v hp=>hp.elim⟩ ?_
   ·rintro p x r m4 Z3 hL ⟨b,rfl,hW⟩ hZ3
    have hx:(ts.map λx=>(V.idxOf x:Int))[p.length]?=some x:=by rw[hL];simp
    rw[List.getElem?_map]at hx
    obtain⟨t,ht1,rfl⟩:=Option.map_eq_some_iff.1 hx
    have hpt:=(List.getElem?_eq_some_iff.1 ht1).1
    have htV:=ht t (List.mem_of_getElem? ht1)
    have htd:ts.getD p.length 0=t:=by rw[List.getD_eq_getElem?_getD,ht1];rfl
    have hu:=hix htV
    refine Ok.jn (λm5=>∃b,m5=m.set S b∧Way V L ts m S (p.length+1) (λ_ _=>False) b) (λm5 h=>hZ3 m5 (by simpa using h)) λJ hJ=>?_
    refine Ok.chk (by rw[wrap_u64 (by omega) (by omega)];simp) ?_
    rw[sh p.length (by omega)]
    refine Ok.cs (λhc=>?_) λhc=>?_
    ·have hSp:S=2 ^ p.length:=by have:=of_decide_eq_true hc;omega
     have hS:0<S:=by rw[hSp];exact Nat.two_pow_pos _
     rw[eS,aP,elD 0 (by rw[hW.len];exact hu),aP,Int.toNat_natCast,sS]
     have hf:=(rV b).1
     have hT:=Trk.one (N:=aX) (L:=L) (k:=ts.length) (ts:=λi=>ts.getD i 0) p.length hpt
     simp only[htd]at hT
     rw[←hSp]at hT
     have hR:=(hW.s hS).put hu (Int.le_refl 0) (by decide) (.inl (by omega)) ⟨[],by rw[lX htV];exact hT,rfl⟩
     have hW2:=hW.down hS hu ((hW.s hS).bd _ hu).1 hR
     refine hJ _ ⟨_,rfl,hW2.len,hW2.z,hW2.s,λi hi h1 h2=>?_,hW2.part⟩
     by_cases hip:i=p.length
     ·subst hip
      rw[htd,pN (by rw[hW.len];exact hu),if_pos rfl];exact Int.le_refl _
     ·exact hW2.one i (by omega) h1 h2
    ·have hSp:¬S=2 ^ p.length:=by have:=of_decide_eq_false hc;omega
     refine hJ _ ⟨b,rfl,hW.len,hW.z,hW.s,λi hi h1 h2=>?_,hW.part⟩
     by_cases hip:i=p.length
     ·subst hip;exact absurd h2 hSp
     ·exact hW.one i (by omega) h1 h2
   ·rintro m4 ⟨b,rfl,hW⟩
    rw[fL]at hW
    refine Ok.whl (λsg:Int×List (List Int)=>∃(v:Nat) (b:List Int),sg=((v:Int),m.set S b)∧v≤V.length∧Way V L ts m S ts.length (λ_ w=>w<v) b) (λsg=>V.length-sg.1.toNat) ⟨0,b,rfl,Nat.zero_le _,hW.len,hW.z,hW.s,hW.one,λP v h=>by omega⟩ (by simp only;omega) ?_
    rintro⟨v1,m6⟩ Z4 ⟨v,b,heq,hvn,hW⟩ hZ4
    simp only[Prod.mk.injEq]at heq
    obtain⟨rfl,rfl⟩:=heq
    refine Ok.cs (λhc=>?_) λhc=>?_
    ·simp only[Bool.and_eq_true,decide_eq_true_eq]at hc
     have hS:0<S:=by omega
     have hv:v<V.length:=by omega
     have hnx:∀P:Nat,0<P→P≤S→en .and .i64 (w64 ((P:Int)-1)) (S:Int)=(((P-1) &&& S:Nat):Int):=λP h1 h2=>by
      rw[cL (by omega) (by omega),show((P:Int)-1)=((P-1:Nat):Int)by omega,tc (by omega) (by omega)]
     rw[hnx S hS (Nat.le_refl _)]
     refine Ok.whl (λsg:Int×List (List Int)=>∃(P:Nat) (b:List Int),sg=((P:Int),m.set S b)∧P &&& S=P∧P<S∧Way V L ts m S ts.length (λQ w=>w<v∨w=v∧P<Q) b) (λsg=>sg.1.toNat) ⟨(S-1) &&& S,b,rfl,qP (a:=S-1) (S:=S) 0,Nat.lt_of_le_of_lt Nat.and_le_left (by omega),hW.len,hW.z,hW.s,hW.one,λQ w h h1 h2 h3 h4=>?_⟩ (by simp only[Int.toNat_natCast];have:(S-1) &&& S≤S-1:=Nat.and_le_left;omega) ?_
     ·rcases h with h|⟨_,h⟩
      ·exact hW.part Q w h h1 h2 h3 h4
      ·have:=td S S Q (Nat.and_self _) h3 h2;omega
     ·rintro⟨p1,m7⟩ Z5 ⟨P,b,heq,hPS,hPlt,hW⟩ hZ5
      simp only[Prod.mk.injEq]at heq
      obtain⟨rfl,rfl⟩:=heq
      refine Ok.cs (λhc2=>?_) λhc2=>?_
      ·have hP:0<P:=by have:=of_decide_eq_true hc2;omega
       obtain⟨x1,x2⟩:=afK hPS
       have afj:S ^^^ P<S:=wN x1 x2 hP
       have hR:0<S ^^^ P:=by
        rcases Nat.eq_zero_or_pos (S ^^^ P)with h|h
        ·rw[h]at x2;simp at x2;omega
        ·exact h
       have hDP:=hrows P hP (by omega)
       have hDR:=hrows (S ^^^ P) hR (by omega)
       have alI:P+(S ^^^ P)=S:=by rw[al9 (by omega) (by omega) x1,x2]
       have hvb:v<b.length:=by rw[hW.len];exact hv
       have bP:=hDP.s.bd v hv
       have bR:=hDR.s.bd v hv
       have bb:=(hW.s hS).bd v hv
       rw[eS,aP,elD 0 hvb,aP,eP b P hPlt,aP,elD 0 (by rw[hDP.s.len];exact hv),aP,afJ (by omega) (by omega),eP b _ afj,aP,elD 0 (by rw[hDR.s.len];exact hv),aP,Int.toNat_natCast,sS,hnx P hP (by omega),cL (by omega) (by omega)]
       have hle1:(P-1) &&& S≤P-1:=Nat.and_le_left
       have key:∀b',Way V L ts m S ts.length (λQ w=>w<v∨w=v∧P<Q) b'→b'.getD v 0≤(m.getD P []).getD v 0+(m.getD (S ^^^ P) []).getD v 0→Ok (Z5 (((((P-1) &&& S:Nat)):Int),m.set S b')) (λc=>(ts=[]→c=0)∧(0<ts.length→(∀K,(∀a∈K,a∈L)→(∀t,t∈ts→Con aX K root t)→c≤cz aX K)∧(c<FAR→∃H,(∀a∈H,a∈L)∧(∀t,t∈ts→Con aX H root t)∧cz aX H=c))):=λb' hW' hle=>by
        refine hZ5 _ ⟨(P-1) &&& S,b',rfl,qP (a:=P-1) (S:=S) 0,by omega,hW'.len,hW'.z,hW'.s,hW'.one,λQ w h h1 h2 h3 h4=>?_⟩ (by simp only[Int.toNat_natCast];omega)
        rcases h with h|⟨rfl,h⟩
        ·exact hW'.part Q w (.inl h) h1 h2 h3 h4
        ·by_cases hPQ:P<Q
         ·exact hW'.part Q w (.inr ⟨rfl,hPQ⟩) h1 h2 h3 h4
         ·have hQP:Q=P:=by
           rcases Nat.lt_or_ge Q P with h5|h5
           ·have:=td P S Q hPS h3 h5;omega
           ·omega
          subst hQP;exact hle
       split
       ·rename_i hlt
        have hR':=(hW.s hS).join hV hDP hDR x1 x2 alI hv hlt
        exact key _ (hW.down hS hv (by omega) hR') (by rw[pN hvb,if_pos rfl];exact Int.le_refl _)
       ·rename_i hlt
        rw[afM 0 hvb]
        exact key _ hW (by omega)
      ·have hP:P=0:=by have:=of_decide_eq_false hc2;omega
       subst hP
       rw[cL (by omega) (by omega)]
       refine hZ4 _ ⟨v+1,b,by simp,hv,hW.len,hW.z,hW.s,hW.one,λQ w h h1 h2 h3 h4=>hW.part Q w ?_ h1 h2 h3 h4⟩ (by simp only;omega)
       rcases Nat.lt_or_eq_of_le (Nat.le_of_lt_succ h)with h|h
       ·exact .inl h
       ·exact .inr ⟨h,h1⟩
    ·
     have hall:Way V L ts m S ts.length (λ_ _=>True) b:=by
      refine⟨hW.len,hW.z,hW.s,hW.one,λQ w _ h1 h2 h3 h4=>hW.part Q w ?_ h1 h2 h3 h4⟩
      simp only[Bool.and_eq_false_iff,decide_eq_false_iff_not]at hc
      omega
     refine Ok.whl (λsg:Bool×List (List Int)=>∃b:List Int,sg.2=m.set S b∧Way V L ts m S ts.length (λ_ _=>True) b∧(S=0→sg.1=false)∧(sg.1=false→0<S→∀u w,u<V.length→w<V.length→0<ent cs u w→b.getD u 0≤ent cs u w+b.getD w 0)) (λsg=>2*(k9 (sg.2.getD S [])).toNat+(bif sg.1 then 1 else 0)) ⟨b,rfl,hall,λh=>by simp[h],λh h0=>by simp at h;omega⟩ ?_ ?_
     ·have h1:=(yH b).2
      have h2:=hall.len
      simp only
      rw[gH [] hSm,if_pos rfl]
      have:(bif decide ((0:Int)<(S:Int))then 1 else 0)≤1:=by cases decide ((0:Int)<(S:Int))<;>simp
      omega
     rintro⟨ch,m8⟩ Z6 ⟨b,heq,hW,hz1,ama⟩ hZ6
     simp only at heq hz1 ama
     subst heq
     cases ch with
     |false=>
      refine hZ _ ⟨by rw[List.length_set];exact hml,λS' h1 h2=>?_,λ_=>?_⟩
      ·by_cases hS':S'=S
       ·subst hS'
        rw[gH [] hSm,if_pos rfl]
        refine⟨hW.s h1,λi hi he=>hW.one i hi hi he,ama rfl h1,λP R hP hR h0 ho w hw=>?_⟩
        obtain⟨e1,e2⟩:=afL h0 ho
        have hPl:=ni h0 ho hR
        have hRl:=wN h0 ho hP
        rw[gH [] hSm,gH [] hSm,if_neg (by omega),if_neg (by omega),e1]
        exact hW.part P w trivial hP hPl e2 hw
       ·rw[gH [] hSm,if_neg hS']
        exact(hrows S' h1 (by omega)).congr λP hP=>by rw[gH [] hSm,if_neg (by omega)]
      ·rw[gH [] hSm]
       split
       ·rename_i h0;exact⟨hW.len,hW.z h0.symm⟩
       ·exact hz0 (by omega)
     |true=>
      have hS:0<S:=by
       rcases Nat.eq_zero_or_pos S with h|h
       ·exact absurd (hz1 h) (by simp)
       ·exact h
      refine Ok.tu (L:=cs) (λp (sg:Bool×List (List Int))=>∃b':List Int,sg.2=m.set S b'∧Way V L ts m S ts.length (λ_ _=>True) b'∧k9 b'≤k9 b∧(sg.1=true→k9 b'<k9 b)∧(sg.1=false→b'=b∧∀u,u<p.length→∀w,w<V.length→0<ent cs u w→b.getD u 0≤ent cs u w+b.getD w 0)) ?_ _ ⟨b,rfl,hW,Int.le_refl _,λh=>(by cases h),λ_=>⟨rfl,λu hu=>by simp at hu⟩⟩ ?_
      ·rintro p e7 r ⟨ch,m9⟩ Z7 hL ⟨b1,heq,hW1,hcp,hcT,hcF⟩ hZ7
       simp only at heq hcp hcT hcF
       subst heq
       have hpu:p.length<V.length:=by have:=congrArg List.length hL;simp at this;omega
       have he7:cs.getD p.length []=e7:=by rw[hL,List.getD_eq_getElem?_getD];simp
       have h7l:e7.length=V.length:=by rw[←he7];exact hM.row _ hpu
       refine Ok.tu (L:=cs) (λq (sg:Bool×List (List Int))=>∃b':List Int,sg.2=m.set S b'∧Way V L ts m S ts.length (λ_ _=>True) b'∧k9 b'≤k9 b∧(sg.1=true→k9 b'<k9 b)∧(sg.1=false→b'=b∧(∀u,u<p.length→∀w,w<V.length→0<ent cs u w→b.getD u 0≤ent cs u w+b.getD w 0)∧∀w,w<q.length→0<ent cs p.length w→b.getD p.length 0≤ent cs p.length w+b.getD w 0)) ?_ _ ⟨b1,rfl,hW1,hcp,hcT,λh=>⟨(hcF h).1,(hcF h).2,λw hw=>by simp at hw⟩⟩ ?_
       ·rintro q e8 r2 ⟨ch,m10⟩ Z8 hL2 ⟨b2,heq,hW2,hcp,hcT,hcF⟩ hZ8
        simp only at heq hcp hcT hcF
        subst heq
        have hqu:q.length<V.length:=by have:=congrArg List.length hL2;simp at this;omega
        have hen:e7.getD q.length 0=ent cs p.length q.length:=by rw[←he7];rfl
        have hpb:p.length<b2.length:=by rw[hW2.len];exact hpu
        have hqb:q.length<b2.length:=by rw[hW2.len];exact hqu
        have hRS:=hW2.s hS
        have bp:=hRS.bd _ hpu
        have bq:=hRS.bd _ hqu
        refine Ok.jn (λsg:Bool×List (List Int)=>∃b':List Int,sg.2=m.set S b'∧Way V L ts m S ts.length (λ_ _=>True) b'∧k9 b'≤k9 b∧(sg.1=true→k9 b'<k9 b)∧(sg.1=false→b'=b∧(∀u,u<p.length→∀w,w<V.length→0<ent cs u w→b.getD u 0≤ent cs u w+b.getD w 0)∧∀w,w<q.length+1→0<ent cs p.length w→b.getD p.length 0≤ent cs p.length w+b.getD w 0)) (λsg h=>hZ8 sg (by simpa using h)) λJ hJ=>?_
        refine Ok.jn (λc=>c=decide (0<ent cs p.length q.length∧ent cs p.length q.length+b2.getD q.length 0<b2.getD p.length 0)) (λc hc=>?_) λJ4 hJ4=>?_
        ·subst hc
         refine Ok.cs (λh=>?_) λh=>?_
         ·obtain⟨h1,h2⟩:=of_decide_eq_true h
          have h3:=hM.le1 hpu hqu h1
          rw[eS,aP,elD 0 (by rw[h7l];exact hqu),aP,elD 0 hqb,aP,elD 0 hpb,aP,Int.toNat_natCast,sS,hen,cL (by omega) (by omega)]
          have hR':=hRS.step hM hpu hqu h1 h2
          have hcs:=afH (by omega) hV hRS hpu (by omega) h2 hR'
          exact hJ _ ⟨_,rfl,hW2.down hS hpu (by omega) hR',by omega,λ_=>(by omega),λh=>(by cases h)⟩
         ·have h:=of_decide_eq_false h
          refine hJ _ ⟨b2,rfl,hW2,hcp,hcT,λhf=>?_⟩
          obtain⟨f1,f2,f3⟩:=hcF hf
          refine⟨f1,f2,λw hw hpos=>?_⟩
          by_cases hwq:w=q.length
          ·subst hwq
           rw[f1]at h
           omega
          ·exact f3 w (by omega) hpos
        ·rw[elD 0 (by rw[h7l];exact hqu),aP,hen]
         refine Ok.cs (λh=>?_) λh=>?_
         ·have h:=of_decide_eq_true h
          have h3:=hM.le1 hpu hqu h
          rw[eS,aP,elD 0 hqb,aP,elD 0 hpb,aP,cL (by omega) (by omega)]
          exact hJ4 _ (by simp[h])
         ·have h:=of_decide_eq_false h
          exact hJ4 _ (by simp[h])
       ·rintro⟨ch,m10⟩ ⟨b2,heq,hW2,hcp,hcT,hcF⟩
        refine hZ7 _ ⟨b2,heq,hW2,hcp,hcT,λhf=>?_⟩
        obtain⟨f1,f2,f3⟩:=hcF hf
        refine⟨f1,λu hu w hw hpos=>?_⟩
        by_cases hup:u=p.length
        ·subst hup;exact f3 w (by rw[hcl];exact hw) hpos
        ·exact f2 u (by simp at hu;omega) w hw hpos
      ·rintro⟨ch,m9⟩ ⟨b1,heq,hW1,hcp,hcT,hcF⟩
       simp only at heq hcp hcT hcF
       subst heq
       have r1:=(yH b).1
       have r2:=(yH b1).1
       refine hZ6 _ ⟨b1,rfl,hW1,λh=>by omega,λhf _ u w hu hw hpos=>?_⟩ ?_
       ·obtain⟨f1,f2⟩:=hcF hf
        rw[f1]
        exact f2 u (by rw[hcl];exact hu) w hw hpos
       ·simp only
        rw[gH [] hSm,gH [] hSm,if_pos rfl,if_pos rfl]
        cases ch with
        |true=>have:=hcT rfl;simp only[cond_true];omega
        |false=>have:=(hcF rfl).1;subst this;simp
 ·rintro i m hi0 hiN ⟨hml,hrows,hz0⟩
  have hi:=hiN (by omega)
  subst hi
  have hw:w64 ((m.length:Int)-1)=((N-1:Nat):Int):=by rw[cL (by omega) (by omega)];omega
  have hzl:=hz0 (by omega)
  have hlen:(m.getD (N-1) []).length=V.length:=by
   rcases Nat.eq_zero_or_pos (N-1)with h|h
   ·rw[h];exact hzl.1
   ·exact(hrows (N-1) h (by omega)).s.len
  rw[hw,elD [] (by omega),aP,elD 0 (by rw[hlen];exact hix hr),aP]
  refine Ok.s ⟨λh0=>?_,λh1=>?_⟩
  ·subst h0
   have hN1:N=1:=by rw[←hN];rfl
   subst hN1
   exact hzl.2 _ (hix hr)
  ·have hT:al7 V L cs ts m (2 ^ ts.length):=⟨by omega,λS h2 h3=>hrows S h2 (by omega)⟩
   have:=adX hM ht hT hr h1
   rw[hN]at this
   exact this
end tab
end Go.Proofs.YtmnbolcmepihlaaGreat
namespace Go.Proofs.YtmnbolcmepihlaaGreat
set_option linter.all false
open Go
variable {c:Int}{m:List (List Int)}{u:Nat}
theorem abF{n v:Nat}(hm:m.length=n)(hr:∀u,u<n→(m.getD u []).length=n)(hu:u<n)(hv:v<n)(u' v':Nat):ent (m.set u ((m.getD u []).set v c)) u' v'=if u'=u∧v'=v then c else ent m u' v':=by
 unfold ent
 rw[gH [] (by omega)]
 by_cases h:u'=u
 ·subst h
  rw[if_pos rfl,gH 0 (by rw[hr _ hu];exact hv)]
  by_cases h2:v'=v
  ·rw[if_pos h2,if_pos ⟨rfl,h2⟩]
  ·rw[if_neg h2,if_neg λh=>h2 h.2]
 ·rw[if_neg h,if_neg λh2=>h h2.1]
theorem aaV{n v:Nat}(hm:m.length=n)(hr:∀u,u<n→(m.getD u []).length=n)(hu:u<n):∀w,w<n→((m.set u ((m.getD u []).set v c)).getD w []).length=n:=λw hw=>by
 rw[gH [] (by omega)]
 split
 ·rw[List.length_set];exact hr u hu
 ·exact hr w hw
structure amb(g:aj)(r:List (List Int)×Vec 100):Prop where
 mat:yG (ids g) (ei g) r.1
 at_:∀x∈ids g,elO r.2.l x=some ((ids g).idxOf x:Int)
theorem uP{V:List Int}{x y:Int}(hx:x∈V)(hy:y∈V)(h:V.idxOf x=V.idxOf y):x=y:=by
 rw[←lX hx,←lX hy,h]
theorem adY{g:aj}(hv:Vt g)(h0:0<g.ak.length):Ok (kS g) (amb g):=by
 have hnr:=hv.nr
 have hil:(ids g).length=g.ak.length:=by simp[ids]
 have hnd:(ids g).Nodup:=(alT hv).imp λh=>Int.ne_of_lt h
 unfold kS
 refine Ok.tu (L:=g.ak) (λ(p:List aK) (m:Vec 100)=>∀(i:Nat) (x:Int),(p.map (·.ID))[i]?=some x→m.l[x.toNat]?=some (i:Int)) ?_ _ (λi x h=>by simp at h) ?_
 ·rintro p x r m Z hL hI hZ
  have hx:x∈g.ak:=by rw[hL];simp
  have hid:=hv.idr x hx
  have hml:=m.h
  have hel:elO m.l x.ID=some (m.l.getD x.ID.toNat 0):=by
   have h:=elD 0 (l:=m.l) (i:=x.ID.toNat) (by omega)
   rwa [Int.toNat_of_nonneg (by omega)]at h
  rw[hel,aP]
  refine hZ _ λi y hy=>?_
  show(m.l.set x.ID.toNat (p.length:Int))[y.toNat]?=_
  rw[List.map_append,List.getElem?_append]at hy
  split at hy
  ·rename_i hi
   have hyp:y∈p.map (·.ID):=List.mem_of_getElem? hy
   obtain⟨z,hz,rfl⟩:=List.mem_map.1 hyp
   have hzx:z.ID≠x.ID:=by
    have:=hv.asc
    rw[hL,List.pairwise_append]at this
    have:=this.2.2 z hz x (by simp)
    omega
   have hzr:=hv.idr z (by rw[hL];simp[hz])
   rw[List.getElem?_set_ne (by omega)]
   exact hI i _ hy
  ·rename_i hi
   simp only[List.length_map,List.map_cons,List.map_nil]at hy hi
   rw[List.getElem?_singleton]at hy
   split at hy
   ·rename_i h1
    cases hy
    rw[List.getElem?_set_self (by omega),show p.length=i by omega]
   ·cases hy
 ·intro m hat
  have z8:∀x∈ids g,elO m.l x=some ((ids g).idxOf x:Int):=λx hx=>by
   have h1:=hat ((ids g).idxOf x) x (by
    have:=List.idxOf_lt_length_of_mem hx
    show(ids g)[(ids g).idxOf x]?=some x
    rw[List.getElem?_eq_getElem this]
    exact congrArg some (List.getElem_idxOf _))
   have:=vn hv hx
   unfold elO
   rw[if_pos (by omega)]
   exact h1
  refine Ok.chk (by simp;omega) (Ok.chk (by simp;omega) ?_)
  have fc:(List.replicate ((g.ak.length:Nat):Int).toNat []:List (List Int)).length=(ids g).length:=by simp[hil]
  rw[fc]
  refine Ok.gP (λj (m2:List (List Int))=>m2.length=(ids g).length∧∀u:Nat,(u:Int)<j→m2.getD u []=List.replicate (ids g).length 0) 0 ((ids g).length:Int) ?_ ?_ _ 0 _ (by simp) (by omega) (by omega) ⟨fc,λu hu=>by omega⟩
  ·rintro j m2 Z2 hj0 hjn ⟨hl,hI⟩ hZ2
   obtain⟨u,rfl⟩:=Int.eq_ofNat_of_zero_le hj0
   refine Ok.chk (by simp;omega) ?_
   rw[elD [] (by omega),aP]
   refine hZ2 _ ⟨by rw[List.length_set];exact hl,λw hw=>?_⟩
   rw[Int.toNat_natCast,Int.toNat_natCast,gH [] (by omega)]
   split
   ·rw[hil]
   ·exact hI w (by omega)
  ·rintro j m2 hj0 hjn ⟨hl,hI⟩
   have hj:=hjn (by omega)
   subst hj
   have hix:∀{x},x∈ids g→(ids g).idxOf x<(ids g).length:=λhx=>List.idxOf_lt_length_of_mem hx
   refine Ok.tu (L:=g.Links) (λp (m3:List (List Int))=>m3.length=(ids g).length∧(∀u,u<(ids g).length→(m3.getD u []).length=(ids g).length)∧(∀a∈p.flatMap mm,ent m3 ((ids g).idxOf a.Hop.aH) ((ids g).idxOf a.Hop.To)=a.bO)∧∀u v,u<(ids g).length→v<(ids g).length→0<ent m3 u v→aq.mk (aS.mk ((ids g).getD u 0) ((ids g).getD v 0)) (ent m3 u v)∈p.flatMap mm) ?_ _ ⟨hl,λu hu=>by rw[hI u (by omega)];simp,λa ha=>by simp at ha,λu v hu hv' h=>?_⟩ ?_
   ·rintro p l r m3 Z3 hL ⟨hl3,hr3,hA,hB⟩ hZ3
    have hl:l∈g.Links:=by rw[hL];simp
    have agW:=hv.ends l hl
    have hAm:=iH.2 agW.1
    have hBm:=iH.2 agW.2
    have hlt:=hv.lt l hl
    have hne:(ids g).idxOf l.A≠(ids g).idxOf l.B:=λe=>by have:=uP hAm hBm e;omega
    have iA:=hix hAm
    have iB:=hix hBm
    rw[z8 _ hAm,z8 _ hBm,aP,elD [] (by omega),aP,aP,elD [] (by omega),aP,elD 0 (by rw[hr3 _ iA];exact iB),aP,Int.toNat_natCast,Int.toNat_natCast]
    have hr4:=aaV (v:=(ids g).idxOf l.B) (c:=l.dL) hl3 hr3 iA
    have hl4:(m3.set ((ids g).idxOf l.A) ((m3.getD ((ids g).idxOf l.A) []).set ((ids g).idxOf l.B) l.dL)).length=(ids g).length:=by rw[List.length_set];exact hl3
    have he4:=abF (v:=(ids g).idxOf l.B) (c:=l.dL) hl3 hr3 iA iB
    generalize m3.set ((ids g).idxOf l.A) ((m3.getD ((ids g).idxOf l.A) []).set ((ids g).idxOf l.B) l.dL)=m4 at hr4 hl4 he4 ⊢
    rw[elD [] (by omega),aP,elD 0 (by rw[hr4 _ iB];exact iA),aP]
    have hr5:=aaV (v:=(ids g).idxOf l.A) (c:=l.ep) hl4 hr4 iB
    have he5:=abF (v:=(ids g).idxOf l.A) (c:=l.ep) hl4 hr4 iB iA
    have hpw:=yB hv
    unfold ei at hpw
    rw[hL,List.flatMap_append,List.flatMap_cons,List.pairwise_append]at hpw
    have hnew:∀a∈p.flatMap mm,∀b∈mm l,a.Hop≠b.Hop:=λa ha b hb=>hpw.2.2 a ha b (List.mem_append.2 (.inl hb))
    have hin:∀a∈p.flatMap mm,a.Hop.aH∈ids g∧a.Hop.To∈ids g:=λa ha=>yI hv (by unfold ei;rw[hL,List.flatMap_append];exact List.mem_append.2 (.inl ha))
    have e1:aq.mk (aS.mk l.A l.B) l.dL∈mm l:=by simp[mm]
    have e2:aq.mk (aS.mk l.B l.A) l.ep∈mm l:=by simp[mm]
    refine hZ3 _ ⟨by rw[List.length_set];exact hl4,hr5,λa ha=>?_,λu v hu hv' hpos=>?_⟩
    ·rw[he5,he4]
     rw[List.flatMap_append,List.flatMap_singleton]at ha
     rcases List.mem_append.1 ha with ha|ha
     ·obtain⟨q1,q2⟩:=hin a ha
      rw[if_neg,if_neg]
      ·exact hA a ha
      ·rintro⟨h1,h2⟩
       refine hnew a ha _ e1 ?_
       have g1:=uP q1 hAm h1
       have g2:=uP q2 hBm h2
       cases hq:a.Hop with
       |mk f t=>rw[hq]at g1 g2;simp only at g1 g2;rw[g1,g2]
      ·rintro⟨h1,h2⟩
       refine hnew a ha _ e2 ?_
       have g1:=uP q1 hBm h1
       have g2:=uP q2 hAm h2
       cases hq:a.Hop with
       |mk f t=>rw[hq]at g1 g2;simp only at g1 g2;rw[g1,g2]
     ·simp only[mm,List.mem_cons,List.not_mem_nil,or_false]at ha
      rcases ha with rfl|rfl
      ·rw[if_neg (λh=>hne h.1),if_pos ⟨rfl,rfl⟩]
      ·rw[if_pos ⟨rfl,rfl⟩]
    ·rw[he5,he4]at hpos ⊢
     rw[List.flatMap_append,List.flatMap_singleton]
     by_cases c1:u=(ids g).idxOf l.B∧v=(ids g).idxOf l.A
     ·obtain⟨rfl,rfl⟩:=c1
      rw[if_pos ⟨rfl,rfl⟩,lX hAm,lX hBm]
      exact List.mem_append.2 (.inr e2)
     ·rw[if_neg c1]at hpos ⊢
      by_cases c2:u=(ids g).idxOf l.A∧v=(ids g).idxOf l.B
      ·obtain⟨rfl,rfl⟩:=c2
       rw[if_pos ⟨rfl,rfl⟩,lX hAm,lX hBm]
       exact List.mem_append.2 (.inr e1)
      ·rw[if_neg c2]at hpos ⊢
       exact List.mem_append.2 (.inl (hB u v hu hv' hpos))
   ·exfalso
    unfold ent at h
    rw[hI u (by omega),List.getD_eq_getElem?_getD,List.getElem?_replicate,if_pos hv']at h
    simp at h
   ·rintro m3 ⟨hl3,hr3,hA,hB⟩
    refine Ok.s ⟨⟨hnd,by omega,hl3,hr3,λa ha=>?_,hB⟩,z8⟩
    have:=yI hv ha
    have hc:=(rT hv).cost a ha
    exact⟨this.1,this.2,hA a ha,hc.1,hc.2⟩
theorem adZ(t:aj)(root:Int)(rs:List Int)(hl:rs.length≤100000):kQ t root rs=some (yA t root rs):=by
 unfold kQ yA
 rw[qU,aP]
 by_cases h:gr t=0
 ·rw[decide_eq_true h,zg _ (by omega),aP]
  simp only[Bool.not_true,cond_false]
  cases fJ (λa b:Int=>decide (a<b)) rs with
  |false=>rfl
  |true=>
   simp only[Bool.not_true,cond_false]
   rw[oA (by simp;omega),aP]
   refine(eF (λr=>!hasB t r) (some 4) (λj x Z s=>by
    rw[rS t x,aP,decide_eq_true h,Bool.true_and]) _ _ _).trans ?_
   show(bif (root::rs).any (λr=>!hasB t r)then some 4 else some 0)=_
   cases(root::rs).any (λr=>!hasB t r)<;>rfl
 ·rw[decide_eq_false h];rfl
variable {ts:List Int}
theorem zv{g:aj}(hv:Vt g){root:Int}(hr:root∈ids g)(ht:∀x∈ts,x∈ids g):Ok (iy g root ts) (λb=>b=true↔∀t,t∈ts→Con aX (ei g) root t):=by
 unfold iy
 rw[eF (λr=>!(tD g root r).2) (some false) (λj x Z s=>by rw[adW,aP])]
 cases h:ts.any λr=>!(tD g root r).2 with
 |true=>
  refine⟨false,rfl,⟨λh=>(by cases h),λhc=>?_⟩⟩
  obtain⟨t,h1,h2⟩:=List.any_eq_true.1 h
  rw[(aaT hv hr (ht t h1)).2 (hc t h1)]at h2
  cases h2
 |false=>
  refine⟨true,rfl,⟨λ_ t h1=>?_,λ_=>rfl⟩⟩
  have:=any_false.1 h t h1
  exact(aaT hv hr (ht t h1)).1 (by simpa using this)
theorem aaW{g:aj}(hv:Vt g){root:Int}(hr:root∈ids g)(h1:ts.Pairwise (·<·))(h2:∀x∈ts,x∈ids g)(hl:ts.length≤6):
  Ok (iO g root ts) (λr=>((∀t,t∈ts→Con aX (ei g) root t)→r.2=0∧∀H,Opt aX (ei g) (λt=>t∈ts) root H→r.1=cz aX H)∧((¬∀t,t∈ts→Con aX (ei g) root t)→r=(0,9))):=by
 have hn:0<g.ak.length:=by
  have:=List.length_pos_of_mem hr
  simpa [ids]using this
 unfold iO
 rw[adZ _ _ _ (by omega),aP,adN hv hr h1 h2,decide_eq_true rfl,decide_eq_false (by omega)]
 simp only[Bool.not_true,cond_false]
 refine Ok.bnd (zv hv hr h2) λb hb=>?_
 cases b with
 |false=>
  have hb:¬∀t,t∈ts→Con aX (ei g) root t:=λh=>by have:=hb.2 h;cases this
  exact⟨(0,9),rfl,λh=>absurd h hb,λ_=>rfl⟩
 |true=>
  have hb:=hb.1 rfl
  refine Ok.bnd (adY hv hn) λr hr2=>?_
  refine Ok.tu (L:=ts) (λp (l:List Int)=>l=p.map λx=>((ids g).idxOf x:Int)) ?_ _ rfl ?_
  ·rintro p x q l Z hL rfl hZ
   have hxt:x∈ts:=by rw[hL];simp
   have hlen:=congrArg List.length hL
   simp at hlen
   rw[hr2.at_ x (h2 x hxt),aP,oA (by simp;omega),aP]
   exact hZ _ (by simp)
  ·rintro l rfl
   rw[hr2.at_ root hr,aP]
   refine Ok.bnd (afN hr2.mat h2 hl hr) λc hc=>?_
   refine⟨(c,0),rfl,λ_=>⟨rfl,λH hO=>?_⟩,λh=>absurd hb h⟩
   by_cases h0:ts=[]
   ·subst h0
    rw[hc.1 rfl]
    have h3:=hO.min [] (λa ha=>by cases ha) (λt ht=>by cases ht)
    have h4:=oH (N:=aX) (H:=H) λa ha=>by have:=hO.pos a (hO.sub a ha);omega
    have e:cz aX ([]:List aq)=0:=rfl
    show(0:Int)=_
    omega
   ·have h1:0<ts.length:=List.length_pos_iff.2 h0
    obtain⟨c1,c2⟩:=hc.2 h1
    have h3:=c1 H hO.sub hO.cov
    have hb1:=hO.min _ (λa ha=>ha) hb
    have hb2:=(jo (rT hv).cost).2
    have hb3:=(rT hv).len
    have hFAR:FAR=1099511627776:=rfl
    obtain⟨K,k1,k2,k3⟩:=c2 (by omega)
    have h4:=hO.min K k1 k2
    show c=_
    omega
end Go.Proofs.YtmnbolcmepihlaaGreat
namespace Go.Proofs.YtmnbolcmepihlaaGreat
set_option linter.all false
open Go
abbrev amc(l:List Int):Bool:=fJ (λa b=>decide (a<b)) l
noncomputable def ckS(t:aj)(x:bV)(rs:List Int):Int:=
 bif !decide (gr t=0)then 1 else bif !decide (ckT x=0)then ckT x else bif (x.bK::rs).any (λr=>!hasB t r)then 4 else bif x.Links.any (λh=>!(ff t h.aH h.To).2)then 4 else bif !amc rs then 25 else bif rs.any (λr=>!decide (r∈o8 x))then 9 else 0
theorem uQ(t:aj)(x:bV)(rs:List Int)(hx:x.Links.length≤90000)(hr:rs.length≤90000):fA t x rs=some (ckS t x rs):=by
 unfold fA ckS
 rw[uL,aP]
 by_cases h:gr t=0
 rotate_left
 ·rw[decide_eq_false h];rfl
 have hv:=lU.1 h
 have hnr:=hv.nr
 have hnl:=hv.nl
 rw[decide_eq_true h,tN _ (by omega),aP]
 simp only[Bool.not_true,cond_false]
 cases hc:!decide (ckT x=0)with
 |true=>rfl
 |false=>
  simp only[cond_false]
  rw[oA (by simp;omega),aP]
  refine(eF (λr=>!hasB t r) (some 4) (λj r Z s=>by
   rw[abw t r (by omega),aP,decide_eq_true h,Bool.true_and]) _ _ _).trans ?_
  show(bif (x.bK::rs).any (λr=>!hasB t r)then some 4 else _)=_
  cases(x.bK::rs).any (λr=>!hasB t r)with
  |true=>rfl
  |false=>
   simp only[cond_false]
   refine(eF (λe:aS=>!(ff t e.aH e.To).2) (some 4) (λj r Z s=>by
    rw[aaF t _ _ (by omega),if_pos h,aP]) _ _ _).trans ?_
   cases x.Links.any (λe=>!(ff t e.aH e.To).2)with
   |true=>rfl
   |false=>
    simp only[cond_false]
    rw[adM _ (by omega),aP]
    cases !fJ (λa b:Int=>decide (a<b)) rs with
    |true=>rfl
    |false=>
     simp only[cond_false]
     rw[aa9 _ (by omega),aP]
     refine(eF (λr=>!decide (r∈o8 x)) (some 9) (λj r Z s=>by rw[ail,aP]) _ _ _).trans ?_
     cases rs.any (λr=>!decide (r∈o8 x))<;>rfl
theorem xJ(t:aj)(x:bV)(rs:List Int)(hx:x.Links.length≤90000)(hr:rs.length≤90000):iw t x rs=some (ckS t x rs):=by
 unfold iw ckS
 rw[qU,aP]
 by_cases h:gr t=0
 rotate_left
 ·rw[decide_eq_false h];rfl
 rw[decide_eq_true h,qV _ (by omega),aP]
 simp only[Bool.not_true,cond_false]
 cases hc:!decide (ckT x=0)with
 |true=>rfl
 |false=>
  simp only[cond_false]
  rw[rS,aP,decide_eq_true h,Bool.true_and,List.any_cons]
  cases hasB t x.bK with
  |false=>rfl
  |true=>
  simp only[Bool.not_true,cond_false,Bool.false_or]
  refine(eF (λr=>!hasB t r) (some 4) (λj r Z s=>by
   rw[rS t r,aP,decide_eq_true h,Bool.true_and]) _ _ _).trans ?_
  cases rs.any (λr=>!hasB t r)with
  |true=>rfl
  |false=>
   simp only[cond_false]
   refine(eF (λe:aS=>!(ff t e.aH e.To).2) (some 4) (λj r Z s=>by
    rw[afu t,if_pos h,aP]) _ _ _).trans ?_
   cases x.Links.any (λe=>!(ff t e.aH e.To).2)with
   |true=>rfl
   |false=>
    simp only[cond_false]
    rw[zg _ (by omega),aP]
    show(bif !fJ (λa b:Int=>decide (a<b)) rs then _ else _)=_
    cases !fJ (λa b:Int=>decide (a<b)) rs with
    |true=>rfl
    |false=>
     simp only[cond_false]
     rw[zu _ (by omega),aP]
     refine(eF (λr=>!decide (r∈o8 x)) (some 9) (λj r Z s=>by rw[afw,aP]) _ _ _).trans ?_
     cases rs.any (λr=>!decide (r∈o8 x))<;>rfl
def zJ(t:aj)(l:List aS):Int:=l.foldl (λn h=>w64 (n+(ff t h.aH h.To).1)) 0
noncomputable def afO(t:aj)(x:bV):Int×Int:=bif !decide (ckS t x []=0)then(0,ckS t x [])else(zJ t x.Links,0)
theorem abG{α σ β:Type}{B:Int→α→(σ→Option β)→σ→Option β}{K:σ→Option β}(f:σ→α→σ)(hB:∀j x Z s,B j x Z s=Z (f s x)):∀(l:List α) (j:Nat) (s:σ),bF l j B K s=K (l.foldl f s)
 |[],_,_=>rfl
 |x::r,j,s=>by rw[bF,hB,abG f hB r (j+1)];rfl
variable {rs:List Int}
theorem amd{t:aj}{x:bV}(h:ckS t x rs=0):gr t=0:=by
 by_cases h1:gr t=0
 ·exact h1
 ·unfold ckS at h;rw[decide_eq_false h1]at h;cases h
theorem aiC(t:aj)(x:bV)(hx:x.Links.length≤90000):jW t x=some (afO t x):=by
 unfold jW afO
 rw[uQ t x [] hx (by simp),aP]
 by_cases h:ckS t x []=0
 ·rw[decide_eq_true h]
  have hc:=amd h
  have hnl:=(lU.1 hc).nl
  simp only[Bool.not_true,cond_false]
  refine(abG (λn (h:aS)=>w64 (n+(ff t h.aH h.To).1)) (λj e Z s=>by rw[aaF t _ _ (by omega),if_pos hc,aP]) _ _ _).trans ?_
  rfl
 ·rw[decide_eq_false h];rfl
theorem zm{g:aj}(hv:Vt g){a:aq}(ha:a∈ei g):ff g a.Hop.aH a.Hop.To=(a.bO,true):=by
 obtain⟨l,hl,h⟩:=qx.1 ha
 have hlt:=hv.lt l hl
 have hne:l.A≠l.B:=by omega
 rcases h with rfl|rfl
 ·show ff g l.A l.B=_
  rw[lV hv hl (by simp[eX])]
  simp[iZ]
 ·show ff g l.B l.A=_
  rw[lV hv hl (by simp[eX])]
  simp[iZ,hne]
theorem afP{l:List Int}(h:l.Pairwise (·<·)):amc l=true:=iP (h.imp λh=>by simpa using h)
variable {ay:List aq}{c:Int}{hs:List aS}{ts:List Int}
theorem abH{g:aj}(hv:Vt g)(hsub:∀a∈ay,a∈ei g){root:Int}(hr:root∈ids g)(h:rD ay root ts hs c)(h1:rs.Pairwise (·<·))(h2:∀x∈rs,x∈ids g)(h3:∀x∈rs,x∈ts):ckS g (bV.mk root hs) rs=0:=by
 have hV:=aiB hv hsub hr h
 unfold ckS
 rw[decide_eq_true (lU.2 hv),decide_eq_true (aaI.2 hV)]
 simp only[Bool.not_true,cond_false]
 rw[any_false.2 (λx hx=>by
  rcases List.mem_cons.1 hx with rfl|hx
  ·rw[iH.1 hr];rfl
  ·rw[iH.1 (h2 x hx)];rfl),any_false.2 (λx hx=>by
  obtain⟨⟨Hs,hO,_,hp⟩,_⟩:=h
  obtain⟨a,ha,rfl⟩:=List.mem_map.1 (hp.mem_iff.1 hx)
  rw[zm hv (hsub a (hO.sub a ha))];rfl),afP h1]
 simp only[Bool.not_true,cond_false]
 rw[any_false.2 (λx hx=>by
  have:x∈o8 (bV.mk root hs):=(air hV).2 (acI h (h3 x hx))
  rw[decide_eq_true this];rfl)]
 rfl
theorem afQ{A:Type}{f:A→Int}{a b:List A}(h:a.Perm b):(a.map f).sum=(b.map f).sum:=by
 induction h with
 |nil=>rfl
 |cons x _ ih=>simp only[List.map_cons,List.sum_cons,ih]
 |swap x y l=>simp only[List.map_cons,List.sum_cons];omega
 |trans _ _ h1 h2=>rw[h1,h2]
theorem aaX{A:Type}{f:A→Int}:∀(l:List A) (s:Int),(∀x∈l,0≤f x∧f x≤1000)→0≤s→s+1000*(l.length:Int)≤1000000000→l.foldl (λn h=>w64 (n+f h)) s=s+(l.map f).sum
 |[],s,_,_,_=>by simp
 |x::r,s,h,h0,hb=>by
  simp only[List.length_cons]at hb
  have hx:=h x (by simp)
  rw[List.foldl_cons,cL (by omega) (by omega),aaX r _ (λy hy=>h y (by simp[hy])) (by omega) (by omega),List.map_cons,List.sum_cons]
  omega
theorem ad0{g:aj}(hv:Vt g)(hA:kU ay)(hsub:∀a∈ay,a∈ei g){root:Int}(h:rD ay root ts hs c):zJ g hs=c:=by
 have hl:=aaU hA h
 obtain⟨⟨Hs,hO,rfl,hp⟩,_⟩:=h
 have hpr:∀a∈Hs,(ff g a.Hop.aH a.Hop.To).1=a.bO:=λa ha=>by rw[zm hv (hsub a (hO.sub a ha))]
 unfold zJ
 refine(aaX (f:=λh:aS=>(ff g h.aH h.To).1) hs 0 (λx hx=>?_) (by omega) (by omega)).trans ?_
 ·obtain⟨a,ha,rfl⟩:=List.mem_map.1 (hp.mem_iff.1 hx)
  rw[hpr a ha]
  have:=hA.cost a (hO.sub a ha)
  omega
 ·rw[afQ hp,List.map_map,Int.zero_add]
  unfold cz
  congr 1
  exact List.map_congr_left λa ha=>hpr a ha
end Go.Proofs.YtmnbolcmepihlaaGreat
