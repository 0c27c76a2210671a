/- Several texts in one. No condition but those that stand in each. -/
import Derived.Test.YtmnbolcmepihlaaGreatPQA
import Derived.Test.YtmnbolcmepihlaaGreatPN
import Derived.Test.YtmnbolcmepihlaaGreatDLC
namespace Go.Proofs.YtmnbolcmepihlaaGreat
set_option linter.all false
open Go
def pk(S:Nat):Nat→List af→List af
 |_,[]=>[]
 |i,a::r=>if S.testBit i then a::pk S (i+1) r else pk S (i+1) r
end Go.Proofs.YtmnbolcmepihlaaGreat
namespace Go.Proofs.YtmnbolcmepihlaaGreat
set_option linter.all false
open Go
theorem abg{f:Int→Int}:∀(b:List Int) (i:Nat),i<b.length→∀x,((b.set i x).map f).sum=(b.map f).sum-f (b.getD i 0)+f x
 |[],_,h,_=>by simp at h
 |y::b,0,_,x=>by simp;omega
 |y::b,i+1,h,x=>by
  have:=abg (f:=f) b i (by simpa using h) x
  simp only[List.set_cons_succ,List.map_cons,List.sum_cons,List.getD_cons_succ]
  omega
theorem abh{f:Int→Int}{m:Int}(h:∀x,0≤f x∧f x≤m):∀b:List Int,0≤(b.map f).sum∧(b.map f).sum≤m*b.length
 |[]=>by simp
 |y::b=>by
  have h1:=abh h b
  have h2:=h y
  simp only[List.map_cons,List.sum_cons,List.length_cons,Int.natCast_add,Int.mul_add]
  omega
theorem acr{b:List Int}{i:Nat}(hi:i<b.length)(x:Int)(v:Nat):(b.set i x).getD v 0=if v=i then x else b.getD v 0:=by
 rw[List.getD_eq_getElem?_getD,List.getD_eq_getElem?_getD,List.getElem?_set]
 by_cases h:v=i
 ·subst h;simp[hi]
 ·rw[if_neg h,if_neg λe=>h e.symm]
abbrev FAR:Int:=1099511627776
def oF(x:Int):Int:=if x<FAR then 1 else 0
def fin(b:List Int):Int:=(b.map oF).sum
theorem aiv(b:List Int):0≤fin b∧fin b≤b.length:=by
 have:=abh (f:=oF) (m:=1) (λx=>by unfold oF;split<;>omega) b
 unfold fin
 omega
theorem aiw{b:List Int}{i:Nat}(hi:i<b.length)(x:Int):fin (b.set i x)=fin b-oF (b.getD i 0)+oF x:=abg b i hi x
def ent(cs:List (List Int))(u v:Nat):Int:=(cs.getD u []).getD v 0
structure afv(V:List Int)(L:List af)(cs:List (List Int)):Prop where
 nd:V.Nodup
 le:V.length≤24
 len:cs.length=V.length
 row:∀u,u<V.length→(cs.getD u []).length=V.length
 arc:∀a∈L,a.Hop.aJ∈V∧a.Hop.To∈V∧ent cs (V.idxOf a.Hop.aJ) (V.idxOf a.Hop.To)=a.cV∧1≤a.cV∧a.cV≤1000
 hop:∀u v,u<V.length→v<V.length→0<ent cs u v→af.mk (aF.mk (V.getD u 0) (V.getD v 0)) (ent cs u v)∈L
theorem afv.le1{V:List Int}{L:List af}{cs:List (List Int)}(h:afv V L cs){u v:Nat}(hu:u<V.length)(hv:v<V.length)(he:0<ent cs u v):ent cs u v≤1000:=(h.arc _ (h.hop u v hu hv he)).2.2.2.2
section tab
variable {V:List Int}{L:List af}{cs:List (List Int)}{ts:List Int}
structure sU(V:List Int)(L:List af)(ts:List Int)(S:Nat)(b:List Int):Prop where
 len:b.length=V.length
 bd:∀v,v<V.length→0≤b.getD v 0∧b.getD v 0≤FAR
 ok:∀v,v<V.length→b.getD v 0<FAR→b.getD v 0≤48000*S-48000+1000*fin b∧∃H,Trk bI L ts.length (λi=>ts.getD i 0) S (V.getD v 0) H∧dI bI H=b.getD v 0
structure aat(V:List Int)(L:List af)(cs:List (List Int))(ts:List Int)(rows:List (List Int))(S:Nat)(b:List Int):Prop where
 s:sU V L ts S b
 one:∀i,i<ts.length→S=2 ^ i→b.getD (V.idxOf (ts.getD i 0)) 0≤0
 hop:∀u v,u<V.length→v<V.length→0<ent cs u v→b.getD u 0≤ent cs u v+b.getD v 0
 part:∀P R,0<P→0<R→P &&& R=0→P ||| R=S→∀v,v<V.length→b.getD v 0≤(rows.getD P []).getD v 0+(rows.getD R []).getD v 0
theorem sU.put{S:Nat}{b:List Int}(h:sU V L ts S b){u:Nat}(hu:u<V.length){c:Int}(h0:0≤c)(hc:c<FAR)(hb:c≤48000*S-48000+1000*fin b∨c≤48000*S-48000+1000*fin b+1000∧FAR≤b.getD u 0∨∃v,v<V.length∧v≠u∧b.getD v 0<FAR∧c≤b.getD v 0+1000∧c≤b.getD u 0)
  (hT:∃H,Trk bI L ts.length (λi=>ts.getD i 0) S (V.getD u 0) H∧dI bI H=c):sU V L ts S (b.set u c):=by
 have hub:u<b.length:=by rw[h.len];exact hu
 have hbu:=h.bd u hu
 have hfs:=aiw hub c
 have hfc:oF c=1:=by unfold oF;rw[if_pos hc]
 have hge:fin b≤fin (b.set u c):=by
  rw[hfs,hfc]
  unfold oF
  split<;>omega
 refine⟨by rw[List.length_set];exact h.len,λv hv=>?_,λv hv sv=>?_⟩
 ·rw[acr hub]
  split
  ·omega
  ·exact h.bd v hv
 ·rw[acr hub]at sv ⊢
  by_cases e:v=u
  ·subst e
   rw[if_pos rfl]
   refine⟨?_,hT⟩
   rcases hb with hb|⟨hb,hf⟩|⟨w,w1,w2,w3,w4,w5⟩
   ·omega
   ·have:oF (b.getD v 0)=0:=by unfold oF;rw[if_neg (by omega)]
    omega
   ·by_cases hf:b.getD v 0<FAR
    ·have:=(h.ok v hv hf).1;omega
    ·have:oF (b.getD v 0)=0:=by unfold oF;rw[if_neg hf]
     have:=(h.ok w w1 w3).1
     omega
  ·rw[if_neg e]at sv ⊢
   obtain⟨h1,h2⟩:=h.ok v hv sv
   exact⟨by omega,h2⟩
theorem aat.le{rows:List (List Int)}{S:Nat}{b:List Int}(hV:V.length≤24)(h:aat V L cs ts rows S b){v:Nat}(hv:v<V.length)(hf:b.getD v 0<FAR):b.getD v 0≤48000*S-24000:=by
 have h1:=(h.s.ok v hv hf).1
 have h2:=(aiv b).2
 have h3:=h.s.len
 omega
theorem sU.step{S:Nat}{b:List Int}(hM:afv V L cs)(h:sU V L ts S b){u v:Nat}(hu:u<V.length)(hv:v<V.length)(he:0<ent cs u v)(hlt:ent cs u v+b.getD v 0<b.getD u 0):sU V L ts S (b.set u (ent cs u v+b.getD v 0)):=by
 have h1:=hM.le1 hu hv he
 have h2:=h.bd v hv
 have h3:=h.bd u hu
 have hf:b.getD v 0<FAR:=by omega
 obtain⟨h4,H,h5,h6⟩:=h.ok v hv hf
 refine h.put hu (by omega) (by omega) (.inr (.inr ⟨v,hv,λe=>by subst e;omega,hf,by omega,by omega⟩)) ⟨_,Trk.hop (N:=bI) _ (hM.hop u v hu hv he) h5,?_⟩
 rw[fD,h6];rfl
end tab
end Go.Proofs.YtmnbolcmepihlaaGreat
namespace Go.Proofs.YtmnbolcmepihlaaGreat
set_option linter.all false
open Go
variable {hs:List aF}{x:Int}
theorem aix{Hs:List af}(hp:hs.Perm (Hs.map (·.Hop))){root:Int}(h:Con bI Hs root x):Rch root hs x:=by
 have:∀{y x:Int},Con bI Hs y x→Rch root hs y→Rch root hs x:=λ{y x} h=>by
  induction h with
  |refl v=>exact id
  |step a ha _ ih=>exact λhr=>ih (Rch.step a.Hop (hp.mem_iff.2 (List.mem_map.2 ⟨a,ha,rfl⟩)) hr)
 exact this h .root
theorem aiy{g:aq}(hv:Vt g){a:af}(ha:a∈gG g):a.Hop.aJ∈ids g∧a.Hop.To∈ids g:=by
 obtain⟨k,hk,h⟩:=mz.1 ha
 have:=hv.ends k hk
 rcases h with rfl|rfl
 ·exact⟨lH.2 this.1,lH.2 this.2⟩
 ·exact⟨lH.2 this.2,lH.2 this.1⟩
theorem rC{g:aq}(hv:Vt g)(hx:x∈ids g):1≤x∧x≤99:=by
 obtain⟨r,hr,rfl⟩:=List.mem_map.1 hx
 exact hv.idr r hr
variable {ai:List af}{c:Int}{ts:List Int}
theorem aiz{g:aq}(hv:Vt g)(hsub:∀a∈ai,a∈gG g){root:Int}(hr:root∈ids g)(h:nM ai root ts hs c):Vr (aX.mk root hs):=by
 obtain⟨⟨Hs,hO,hc,hp⟩,afw⟩:=h
 have hm:∀h∈hs,∃a∈Hs,a.Hop=h:=λh hh=>by
  obtain⟨a,ha,e⟩:=List.mem_map.1 (hp.mem_iff.1 hh)
  exact⟨a,ha,e⟩
 have hdup:Hs.Pairwise λa b=>a.Hop.To≠b.Hop.To:=by
  have hnd:Hs.Pairwise λa b=>a≠b:=hO.nodup
  exact hnd.imp_of_mem λ{a b} ha hb hab e=>hab (hO.dst ha hb e)
 refine⟨rC hv hr,λh hh=>?_,afw.imp λ{a b} h=>?_,?_,λh hh=>?_,λh hh=>?_⟩
 ·obtain⟨a,ha,rfl⟩:=hm h hh
  have:=aiy hv (hsub a (hO.sub a ha))
  exact⟨rC hv this.1,rC hv this.2⟩
 ·rw[fC,fC]at h
  simp only[cD]at h
  simp only[ltH,Bool.or_eq_true,Bool.and_eq_true,decide_eq_true_eq]
  omega
 ·have h2:(Hs.map (·.Hop)).Pairwise λa b=>a.To≠b.To:=List.pairwise_map.2 hdup
  exact(hp.pairwise_iff λ{a b} h=>Ne.symm h).2 h2
 ·obtain⟨a,ha,rfl⟩:=hm h hh
  exact hO.root ha
 ·obtain⟨a,ha,rfl⟩:=hm h hh
  exact aix hp (hO.rch ha)
theorem acs{root:Int}(h:nM ai root ts hs c){t:Int}(ht:t∈ts):t=root∨∃x∈hs,x.To=t:=by
 obtain⟨⟨Hs,hO,hc,hp⟩,afw⟩:=h
 rcases aaa (hO.cov t ht)with h|⟨e,he,h1,_⟩
 ·exact .inl h.symm
 ·exact .inr ⟨e.Hop,hp.mem_iff.2 (List.mem_map.2 ⟨e,he,rfl⟩),h1⟩
theorem oW{A:Type}[DecidableEq A]{a b:List A}(h:a.Nodup)(hs:∀x∈a,x∈b):a.length≤b.length:=by
 induction a generalizing b with
 |nil=>simp
 |cons x a ih=>
  rw[List.nodup_cons]at h
  have hx:=hs x (by simp)
  have:=ih (b:=b.erase x) h.2 λy hy=>(List.mem_erase_of_ne (λe=>h.1 (by rw[←e];exact hy))).2 (hs y (by simp[hy]))
  rw[List.length_erase_of_mem hx]at this
  have:=List.length_pos_of_mem hx
  simp only[List.length_cons];omega
theorem afx(hA:ig ai){root:Int}(h:nM ai root ts hs c):hs.length≤1000:=by
 obtain⟨⟨Hs,hO,hc,hp⟩,afw⟩:=h
 have h1:Hs.length≤ai.length:=oW hO.nodup hO.sub
 have h2:=hp.length_eq
 have h3:=hA.len
 rw[List.length_map]at h2
 omega
end Go.Proofs.YtmnbolcmepihlaaGreat
namespace Go.Proofs.YtmnbolcmepihlaaGreat
set_option linter.all false
open Go
theorem afy{S P R:Nat}(h0:P &&& R=0)(h:P ||| R=S)(hP:0<P):R<S:=nL (by rw[Nat.and_comm];exact h0) (by rw[Nat.or_comm];exact h) hP
section tab
variable {V:List Int}{L:List af}{cs:List (List Int)}{ts:List Int}
theorem aat.congr{rows agA:List (List Int)}{S:Nat}{b:List Int}(h:aat V L cs ts rows S b)(he:∀P,P<S→agA.getD P []=rows.getD P []):aat V L cs ts agA S b:=by
 refine⟨h.s,h.one,h.hop,λP R hP hR h0 ho v hv=>?_⟩
 have h1:=nL h0 ho hR
 have h2:=afy h0 ho hP
 rw[he P h1,he R h2]
 exact h.part P R hP hR h0 ho v hv
structure Way(V:List Int)(L:List af)(ts:List Int)(rows:List (List Int))(S:Nat)(j:Nat)(p:Nat→Nat→Prop)(b:List Int):Prop where
 len:b.length=V.length
 z:S=0→∀v,v<V.length→b.getD v 0=0
 s:0<S→sU V L ts S b
 one:∀i,i<j→i<ts.length→S=2 ^ i→b.getD (V.idxOf (ts.getD i 0)) 0≤0
 part:∀P v,p P v→0<P→P<S→P &&& S=P→v<V.length→b.getD v 0≤(rows.getD P []).getD v 0+(rows.getD (S ^^^ P) []).getD v 0
theorem Way.down{rows:List (List Int)}{S j:Nat}{p:Nat→Nat→Prop}{b:List Int}(h:Way V L ts rows S j p b)(hS:0<S){u:Nat}{c:Int}(hu:u<V.length)(hle:c≤b.getD u 0)(hR:sU V L ts S (b.set u c)):Way V L ts rows S j p (b.set u c):=by
 have hub:u<b.length:=by rw[h.len];exact hu
 have hle2:∀v,(b.set u c).getD v 0≤b.getD v 0:=λv=>by
  rw[acr hub]
  split
  ·rename_i e;subst e;exact hle
  ·exact Int.le_refl _
 exact⟨hR.len,λh0=>by omega,λ_=>hR,λi h1 h2 h3=>Int.le_trans (hle2 _) (h.one i h1 h2 h3),λP v h1 h2 h3 h4 h5=>Int.le_trans (hle2 _) (h.part P v h1 h2 h3 h4 h5)⟩
end tab
end Go.Proofs.YtmnbolcmepihlaaGreat
namespace Go.Proofs.YtmnbolcmepihlaaGreat
set_option linter.all false
open Go
abbrev al3(l:List Int):Bool:=jt (λa b=>decide (a<b)) l
noncomputable def ckS(t:aq)(x:aX)(rs:List Int):Int:=
 bif !decide (pV t=0)then 1 else bif !decide (ckT x=0)then ckT x else bif (x.bK::rs).any (λr=>!hasB t r)then 4 else bif x.Links.any (λh=>!(kH t h.aJ h.To).2)then 4 else bif !al3 rs then 25 else bif rs.any (λr=>!decide (r∈uw x))then 9 else 0
theorem aau(t:aq)(x:aX)(rs:List Int)(hx:x.Links.length≤90000)(hr:rs.length≤90000):gx t x rs=some (ckS t x rs):=by
 unfold gx ckS
 rw[uo,bx]
 by_cases h:pV t=0
 rotate_left
 ·rw[decide_eq_false h];rfl
 have hv:=pX.1 h
 have hnr:=hv.nr
 have hnl:=hv.nl
 rw[decide_eq_true h,s9 _ (by omega),bx]
 simp only[Bool.not_true,cond_false]
 cases hc:!decide (ckT x=0)with
 |true=>rfl
 |false=>
  simp only[cond_false]
  rw[nN (by simp;omega),bx]
  refine(lq (λr=>!hasB t r) (some 4) (λj r Z s=>by
   rw[aa6 t r (by omega),bx,decide_eq_true h,Bool.true_and]) _ _ _).trans ?_
  show(bif (x.bK::rs).any (λr=>!hasB t r)then some 4 else _)=_
  cases(x.bK::rs).any (λr=>!hasB t r)with
  |true=>rfl
  |false=>
   simp only[cond_false]
   refine(lq (λe:aF=>!(kH t e.aJ e.To).2) (some 4) (λj r Z s=>by
    rw[afo t _ _ (by omega),if_pos h,bx]) _ _ _).trans ?_
   cases x.Links.any (λe=>!(kH t e.aJ e.To).2)with
   |true=>rfl
   |false=>
    simp only[cond_false]
    rw[al0 _ (by omega),bx]
    cases !jt (λa b:Int=>decide (a<b)) rs with
    |true=>rfl
    |false=>
     simp only[cond_false]
     rw[aaO _ (by omega),bx]
     refine(lq (λr=>!decide (r∈uw x)) (some 9) (λj r Z s=>by rw[aim,bx]) _ _ _).trans ?_
     cases rs.any (λr=>!decide (r∈uw x))<;>rfl
theorem abi{α σ β:Type}{B:Int→α→(σ→Option β)→σ→Option β}{K:σ→Option β}(f:σ→α→σ)(hB:∀j x Z s,B j x Z s=Z (f s x)):∀(l:List α) (j:Nat) (s:σ),bZ l j B K s=K (l.foldl f s)
 |[],_,_=>rfl
 |x::r,j,s=>by rw[bZ,hB,abi f hB r (j+1)];rfl
theorem adK{g:aq}(hv:Vt g){a:af}(ha:a∈gG g):kH g a.Hop.aJ a.Hop.To=(a.cV,true):=by
 obtain⟨l,hl,h⟩:=mz.1 ha
 have hlt:=hv.lt l hl
 have hne:l.A≠l.B:=by omega
 rcases h with rfl|rfl
 ·show kH g l.A l.B=_
  rw[wm hv hl (by simp[iR])]
  simp[rA]
 ·show kH g l.B l.A=_
  rw[wm hv hl (by simp[iR])]
  simp[rA,hne]
theorem aav{l:List Int}(h:l.Pairwise (·<·)):al3 l=true:=jQ (h.imp λh=>by simpa using h)
theorem aiA{g:aq}(hv:Vt g){ai:List af}(hsub:∀a∈ai,a∈gG g){root:Int}(hr:root∈ids g){ts rs:List Int}{hs:List aF}{c:Int}(h:nM ai root ts hs c)(h1:rs.Pairwise (·<·))(h2:∀x∈rs,x∈ids g)(h3:∀x∈rs,x∈ts):ckS g (aX.mk root hs) rs=0:=by
 have hV:=aiz hv hsub hr h
 unfold ckS
 rw[decide_eq_true (pX.2 hv),decide_eq_true (adD.2 hV)]
 simp only[Bool.not_true,cond_false]
 rw[any_false.2 (λx hx=>by
  rcases List.mem_cons.1 hx with rfl|hx
  ·rw[lH.1 hr];rfl
  ·rw[lH.1 (h2 x hx)];rfl),any_false.2 (λx hx=>by
  obtain⟨⟨Hs,hO,_,hp⟩,_⟩:=h
  obtain⟨a,ha,rfl⟩:=List.mem_map.1 (hp.mem_iff.1 hx)
  rw[adK hv (hsub a (hO.sub a ha))];rfl),aav h1]
 simp only[Bool.not_true,cond_false]
 rw[any_false.2 (λx hx=>by
  have:x∈uw (aX.mk root hs):=(aiq hV).2 (acs h (h3 x hx))
  rw[decide_eq_true this];rfl)]
 rfl
end Go.Proofs.YtmnbolcmepihlaaGreat
namespace Go.Proofs.YtmnbolcmepihlaaGreat
set_option linter.all false
open Go
variable {l:List Int}
theorem al4(hl:l.length≤1000000)(ha:l.Pairwise (·<·))(x:Int):∃i,dY l x=some (i,decide (x∈l)):=by
 have e:bsT (λy:Int=>dZ y x) l=decide (x∈l):=by
  rw[Bool.eq_iff_iff,decide_eq_true_eq,x3 (mq (ha.imp λ{a b} h=>?_))]
  ·constructor
   ·rintro⟨y,hy,h⟩;rw[iA]at h;subst h;exact hy
   ·intro h;exact⟨x,h,iA.2 rfl⟩
  ·unfold dZ;repeat' split
   all_goals omega
 refine⟨(bsR (λy:Int=>dZ y x) l:Int),?_⟩
 rw[←e]
 unfold dY
 have less:∀y:Int,jM y x=some (decide (y<x)):=λy=>by
  unfold jM eT
  simp[bx]
 refine xZ l (λy:Int=>dZ y x) hl λi j Z hj=>?_
 by_cases hij:i<j
 ·rw[dif_pos hij]
  simp only[xY (i:=i) (j:=j) (by omega),oo (show(i+j) / 2<l.length by omega),bx,less,lV]
  rw[if_pos (by omega),dh (by omega) (by omega)]
  by_cases h:el l ((i+j) / 2:Nat)<x
  ·rw[if_pos h,if_pos (uT.2 h)];rfl
  ·rw[if_neg h,if_neg (λhh=>h (uT.1 hh))]
 ·rw[dif_neg hij]
  simp only[lV]
  rw[if_neg (by omega)]
  by_cases hi:i<l.length
  ·rw[if_pos (by omega),oo hi]
   simp only[bx,gN]
   by_cases h:el l i=x
   ·rw[if_pos h,decide_eq_true hi,decide_eq_true (iA.2 h)];rfl
   ·rw[if_neg h,decide_eq_true hi,decide_eq_false (λhh=>h (iA.1 hh))];simp
  ·rw[if_neg (by omega)];simp[hi]
abbrev RM:=List (aF×Int)
instance hopDec:DecidableEq aF:=λa b=>decidable_of_iff (bh a b=true) (eU a b)
theorem ux(l:RM)(n m:aF)(v:Int):bN bh (dQ bh l n v) m=if m=n then some v else bN bh l m:=by
 induction l with
 |nil=>
  simp only[dQ,bN,List.find?_cons,List.find?_nil]
  cases h:bh m n with
  |true=>rw[if_pos ((eU _ _).1 h)];rfl
  |false=>rw[if_neg (λe=>by rw[(eU m n).2 e]at h;cases h)]
 |cons p r ih=>
  simp only[dQ]
  cases hn:bh n p.1 with
  |true=>
   have hn:=(eU _ _).1 hn
   simp only[cond_true,bN,List.find?_cons]
   rw[←hn]
   cases h:bh m n with
   |true=>rw[if_pos ((eU _ _).1 h)];rfl
   |false=>rw[if_neg (λe=>by rw[(eU m n).2 e]at h;cases h)]
  |false=>
   simp only[cond_false,bN,List.find?_cons]
   cases h:bh m p.1 with
   |true=>
    have h:=(eU _ _).1 h
    rw[if_neg (λe=>by rw[←e,h,(eU p.1 p.1).2 rfl]at hn;cases hn)]
   |false=>
    have:=ih
    simp only[bN]at this
    exact this
theorem acv{l:RM}(hd:(l.map (·.1)).Nodup){n:aF}{v:Int}(h:(n,v)∈l):bN bh l n=some v:=by
 induction l with
 |nil=>cases h
 |cons p r ih=>
  simp only[List.map_cons,List.nodup_cons]at hd
  simp only[bN,List.find?_cons]
  rcases List.mem_cons.1 h with rfl|h
  ·rw[(eU n n).2 rfl];rfl
  ·cases he:bh n p.1 with
   |true=>rw[(eU _ _).1 he]at h;exact(hd.1 (List.mem_map.2 ⟨_,h,rfl⟩)).elim
   |false=>exact ih hd.2 h
theorem abj{l:RM}{n:aF}:bN bh l n=none↔n∉l.map (·.1):=by
 simp only[bN,Option.map_eq_none_iff,List.find?_eq_none,List.mem_map]
 constructor
 ·rintro h ⟨p,hp,rfl⟩
  exact h p hp ((eU _ _).2 rfl)
 ·intro h p hp he
  exact h ⟨p,hp,((eU _ _).1 he).symm⟩
theorem abk(l:RM)(n:aF)(v:Int):(dQ bh l n v).map (·.1)=if n∈l.map (·.1)then l.map (·.1)else l.map (·.1)++[n]:=by
 induction l with
 |nil=>simp[dQ]
 |cons p r ih=>
  simp only[dQ]
  cases hn:bh n p.1 with
  |true=>
   have hn:=(eU _ _).1 hn
   simp[hn]
  |false=>
   have hne:n≠p.1:=λe=>by rw[(eU n p.1).2 e]at hn;cases hn
   simp only[cond_false,List.map_cons,ih,List.mem_cons,hne,false_or]
   split<;>simp
theorem acw{l:RM}(h:(l.map (·.1)).Nodup)(n:aF)(v:Int):((dQ bh l n v).map (·.1)).Nodup:=by
 rw[abk]
 split
 ·exact h
 ·rename_i hn
  rw[List.nodup_append]
  exact⟨h,by simp,λa ha b hb=>by rw[List.mem_singleton]at hb;subst hb;exact λe=>hn (e▸ha)⟩
theorem adL{α σ:Type}{B:Int→α→(σ→Option Int)→σ→Option Int}{K:σ→Option Int}(p:α→Bool)(hB:∀j x Z s,B j x Z s=bif p x then some j else Z s)(hK:∀s,K s=some (-1)):∀(l:List α) (j:Nat) (s:σ),
  (bZ l j B K s=some (-1)∧∀x∈l,p x=false)∨∃k,k<l.length∧bZ l j B K s=some ((j+k:Nat):Int)∧(∀x∈l.take k,p x=false)∧∃x,l[k]?=some x∧p x=true
 |[],j,s=>.inl ⟨hK s,λx hx=>by cases hx⟩
 |x::r,j,s=>by
  simp only[bZ,hB]
  cases hp:p x
  ·rcases adL p hB hK r (j+1) s with⟨h1,h2⟩|⟨k,h1,h2,h3,h4⟩
   ·refine .inl ⟨by simpa using h1,λy hy=>?_⟩
    rcases List.mem_cons.1 hy with rfl|hy
    ·exact hp
    ·exact h2 y hy
   ·refine .inr ⟨k+1,by simpa using h1,by simp only[cond_false,h2];congr 2;omega,λy hy=>?_,by simpa using h4⟩
    rw[List.take_succ_cons]at hy
    rcases List.mem_cons.1 hy with rfl|hy
    ·exact hp
    ·exact h3 y hy
  ·exact .inr ⟨0,by simp,by simp,(λy hy=>by simp at hy),x,by simp,hp⟩
theorem aiB(l:List af)(hl:l.length≤1000000)(f:af→Option Bool)(p:af→Bool)(hf:∀x,f x=some (p x)):cS l f=some (l.filter λx=>!p x):=by
 unfold cS dP
 rcases adL (B:=λ(j1:Int) (e1:af) (Z1:Unit→Option Int) (sg:Unit)=>match sg with|()=>bnd (f e1) λ(ay:Bool)=>bif ay then some (j1:Int)else Z1 ()) (K:=λ(sg:Unit)=>match sg with|()=>some (-1:Int)) p (λj x Z s=>by simp only[hf,bx]) (λ_=>rfl) l 0 ()with⟨h1,h2⟩|⟨k,h1,h2,h3,x,h4,h5⟩
 ·rw[h1,bx,decide_eq_true rfl,cond_true,List.filter_eq_self.2 λx hx=>by rw[h2 x hx];rfl]
 ·have hk:(l.take (k+1)).filter (λx=>!p x)=l.take k:=by
   rw[List.take_add_one,h4,List.filter_append,List.filter_eq_self.2 λx hx=>by rw[h3 x hx];rfl]
   simp[h5]
  rw[h2,bx,Nat.zero_add,decide_eq_false (by omega),cond_false]
  refine Ok.eq (Ok.whl (λsg:List af×Int×Int=>∃i j:Nat,sg.2.1=i∧sg.2.2=j∧i<j∧j≤l.length∧sg.1.length=l.length∧sg.1.take i=(l.take j).filter (λx=>!p x)∧sg.1.drop j=l.drop j) (λsg=>l.length-sg.2.2.toNat)
   ⟨k,k+1,rfl,by simp only;rw[dh (by omega) (by omega)];rfl,by omega,by omega,rfl,hk.symm,rfl⟩ (by simp only;omega) ?_)
  rintro⟨vs,i,j⟩ Z ⟨i,j,rfl,rfl,hij,hjl,hlen,ht,hd⟩ hZ
  simp only at hlen ht hd hZ ⊢
  rw[hlen]
  by_cases hlt:j<l.length
  ·rw[decide_eq_true (by omega),cond_true]
   have hj:vs[j]?=some l[j]:=by
    have:=congrArg (·[0]?) hd
    simpa [List.getElem?_drop,List.getElem?_eq_getElem hlt]using this
   have e1:elO vs (j:Int)=some l[j]:=by unfold elO;rw[if_pos (by omega),Int.toNat_natCast];exact hj
   have hjn:w64 ((j:Int)+1)=((j+1:Nat):Int):=by rw[dh (by omega) (by omega)];rfl
   have hdn:vs.drop (j+1)=l.drop (j+1):=by
    have:=congrArg (List.drop 1) hd
    simpa [List.drop_drop,Nat.add_comm]using this
   have htn:l.take (j+1)=l.take j++[l[j]]:=by rw[List.take_add_one,List.getElem?_eq_getElem hlt];rfl
   simp only[jn,e1,bx,hf]
   cases hp:p l[j]with
   |true=>
    simp only[Bool.not_true,cond_false]
    refine hZ _ ⟨i,j+1,rfl,hjn,by omega,by omega,hlen,?_,hdn⟩ (by simp only[hjn];omega)
    rw[ht,htn,List.filter_append];simp[hp]
   |false=>
    simp only[Bool.not_false,cond_true]
    have e2:elO vs (i:Int)=some (vs[i]'(by omega)):=by unfold elO;rw[if_pos (by omega),Int.toNat_natCast];exact List.getElem?_eq_getElem (by omega)
    have e3:ow vs (i:Int) l[j]=some (vs.set i l[j]):=by obtain⟨m,g1,g2,_⟩:=aai (l:=vs) (i:=(i:Int)) (x:=l[j]) (by omega) (by omega);rw[g1,g2,Int.toNat_natCast]
    have hin:w64 ((i:Int)+1)=((i+1:Nat):Int):=by rw[dh (by omega) (by omega)];rfl
    simp only[e2,bx,e3]
    refine hZ _ ⟨i+1,j+1,hin,hjn,by omega,by omega,by simp[hlen],?_,?_⟩ (by simp only[hjn];omega)
    ·rw[List.take_add_one,List.take_set_of_le (Nat.le_refl _),ht,htn,List.filter_append]
     simp[hp,List.getElem?_set,show i<vs.length by omega]
    ·rw[List.drop_set_of_lt (by omega)];exact hdn
  ·obtain rfl:j=l.length:=by omega
   rw[decide_eq_false (by omega),cond_false]
   refine Ok.chk (by simp;omega) ?_
   rw[List.take_length]at ht
   obtain⟨m,g1,g2,_⟩:=uj (l:=vs.take (i:Int).toNat++List.replicate (l.length-(i:Int).toNat) (af.mk (aF.mk (0:Int) (0:Int)) (0:Int))) (a:=0) (b:=(i:Int)) (by simp;omega)
   rw[g1,bx]
   refine Ok.s ?_
   rw[g2,Int.toNat_natCast,List.take_append_of_le_length (by simp;omega),List.take_take,Nat.min_self,ht]
   rfl
def eN(r:RM)(h:aF):Int:=(bN bh r h).getD 0
def gd(g:aq)(r:RM)(n:Int):List af:=(gG g).filter λa=>decide (n≤eN r a.Hop)
theorem sV{g:aq}{r:RM}{n:Int}{a:af}:a∈gd g r n↔a∈gG g∧n≤eN r a.Hop:=by simp[gd]
theorem afz{a b:List af}(h:∀x∈a,x∈b)(hl:a.length≤1000)(hb:ig b):ig a:=⟨λx hx=>hb.cost x (h x hx),λx hx=>hb.to x (h x hx),λx hx y hy=>hb.hop x (h x hx) y (h y hy),hl⟩
theorem uW{g:aq}(hv:Vt g)(r:RM)(n:Int):ig (gd g r n):=afz (λ_ h=>(sV.1 h).1) (by have:=List.length_filter_le (λa:af=>decide (n≤eN r a.Hop)) (gG g);have:=p9 g;have:=hv.nl;unfold gd;omega) (ais hv)
theorem agB{g:aq}(hv:Vt g)(r:RM)(n:Int):∃m,eZ r g n=some m∧m.Perm (gd g r n):=by
 obtain⟨m,hm,hp⟩:=aoL hv
 have hl:=hp.length_eq
 rw[p9]at hl
 have:=hv.nl
 unfold eZ
 rw[hm,bx,aiB m (by omega) (λy0=>gq y0 r n) (λa=>decide (eN r a.Hop<n)) (λx=>rfl),bx]
 refine⟨_,rfl,?_⟩
 have e:(λx:af=>!decide (eN r x.Hop<n))=λa=>decide (n≤eN r a.Hop):=by
  funext a
  rw[Bool.eq_iff_iff];simp
 rw[e]
 exact hp.filter _
structure ReI(ai:List af)(root:Int)(out:List Int)(m:List (Int×Bool)):Prop where
 nd:out.Nodup
 con:∀x∈out,Con bI ai root x
 root:root∈out
 map:∀x,(aO m x).getD false=decide (x∈out)
variable {H:List af}{u:Int}
theorem uX{v:Int}(h:Con bI H v u):u=v∨∃a∈H,a.Hop.To=u:=by
 induction h with
 |refl v=>exact .inl rfl
 |step a ha _ ih=>
  rcases ih with h|h
  ·exact .inr ⟨a,ha,h.symm⟩
  ·exact .inr h
theorem xd{v:Int}(h:Con bI H v u)(hc:∀a∈H,a.Hop.aJ∈l→a.Hop.To∈l)(hv:v∈l):u∈l:=by
 induction h with
 |refl v=>exact hv
 |step a ha _ ih=>exact ih (hc a ha hv)
variable {ai:List af}
theorem adM{root:Int}{out:List Int}{m:List (Int×Bool)}(h:ReI ai root out m):out.length≤ai.length+1:=by
 have:=oW (b:=root::ai.map (·.Hop.To)) h.nd λx hx=>by
  rcases uX (h.con x hx)with rfl|⟨a,ha,rfl⟩
  ·simp
  ·exact List.mem_cons_of_mem _ (List.mem_map.2 ⟨a,ha,rfl⟩)
 simpa using this
theorem rz(hl:ai.length≤1000)(root:Int):Ok (ji ai root) λl=>l.Pairwise (·<·)∧∀x,x∈l↔Con bI ai root x:=by
 unfold ji
 refine Ok.whl (λsg:List Int×Int×List (Int×Bool)=>ReI ai root sg.1 sg.2.2∧∃i:Nat,sg.2.1=i∧i≤sg.1.length∧∀k,k<i→∀a∈ai,sg.1[k]?=some a.Hop.aJ→a.Hop.To∈sg.1) (λsg=>2000-sg.2.1.toNat) ?_ (by simp only;omega) ?_
 ·refine⟨⟨by simp,?_,by simp,λx=>?_⟩,0,rfl,by simp,λk hk=>by omega⟩
  ·intro x hx;rw[List.mem_singleton]at hx;subst hx;exact .refl _
  ·simp only[bt,aO,List.find?_cons,List.find?_nil,List.mem_singleton]
   by_cases h:x=root
   ·subst h;simp
   ·have:¬root=x:=λe=>h e.symm
    simp[h,this]
 ·rintro⟨out,i,m⟩ Z ⟨hI,i,rfl,hi,hcl⟩ hZ
  simp only at hI hi hcl hZ ⊢
  have hlen:=adM hI
  by_cases hlt:i<out.length
  ·rw[decide_eq_true (by omega),cond_true]
   refine Ok.aal (λpre (sg:List Int×List (Int×Bool))=>ReI ai root sg.1 sg.2∧out <+: sg.1∧∀a∈pre,out[i]?=some a.Hop.aJ→a.Hop.To∈sg.1) ?_ _ ⟨hI,List.prefix_refl _,λk hk=>by cases hk⟩ ?_
   ·rintro pre a rest ⟨o,m⟩ Y hL ⟨h1,h2,h3⟩ hY
    have ha:a∈ai:=by rw[hL];simp
    simp only at h1 h2 h3 hY ⊢
    obtain⟨t,rfl⟩:=h2
    have hoi:(out++t)[i]?=some out[i]:=by rw[List.getElem?_append_left hlt];exact List.getElem?_eq_getElem hlt
    have e1:elO (out++t) (i:Int)=some out[i]:=by unfold elO;rw[if_pos (by simp),Int.toNat_natCast];exact hoi
    have hmap:=h1.map a.Hop.To
    have hstep:∀o2:List Int,(∀x∈out++t,x∈o2)→(out[i]?=some a.Hop.aJ→a.Hop.To∈o2)→∀b∈pre++[a],out[i]?=some b.Hop.aJ→b.Hop.To∈o2:=λo2 hs hn b hb hf=>by
     rcases List.mem_append.1 hb with hb|hb
     ·exact hs _ (h3 b hb hf)
     ·rw[List.mem_singleton]at hb;subst hb
      exact hn hf
    simp only[jn,e1,bx]
    by_cases hf:a.Hop.aJ=out[i]
    ·rw[decide_eq_true hf,cond_true,hmap]
     by_cases hin:a.Hop.To∈out++t
     ·rw[decide_eq_true hin]
      simp only[Bool.not_true,cond_false]
      exact hY _ ⟨h1,List.prefix_append _ _,hstep _ (λ_ h=>h) λ_=>hin⟩
     ·rw[decide_eq_false hin]
      simp only[Bool.not_false,cond_true]
      have:=adM h1
      rw[nN (by simp only[List.length_cons,List.length_nil];omega),bx]
      refine hY _ ⟨⟨?_,?_,?_,λx=>?_⟩,by simp only[List.append_assoc];exact List.prefix_append _ _,hstep _ (λx hx=>List.mem_append_left _ hx) λ_=>by simp⟩
      ·rw[List.nodup_append]
       exact⟨h1.nd,by simp,λx hx y hy=>by rw[List.mem_singleton]at hy;subst hy;exact λe=>hin (e▸hx)⟩
      ·intro x hx
       rcases List.mem_append.1 hx with hx|hx
       ·exact h1.con x hx
       ·rw[List.mem_singleton]at hx;subst hx
        have hc:=h1.con out[i] (List.mem_append_left _ (List.getElem_mem hlt))
        rw[←hf]at hc
        exact hc.trans (Con.one (N:=bI) ha)
      ·exact List.mem_append_left _ h1.root
      ·have:=h1.map x
       simp only[aam]at this ⊢
       by_cases hx:x=a.Hop.To
       ·subst hx;simp
       ·rw[if_neg hx,this]
        simp[hx]
    ·rw[decide_eq_false hf,cond_false]
     simp only[cond_false]
     exact hY _ ⟨h1,List.prefix_append _ _,hstep _ (λ_ h=>h) λhe=>absurd (by rw[List.getElem?_eq_getElem hlt]at he;injection he with he;exact he.symm) hf⟩
   ·rintro⟨o,m⟩ ⟨h1,h2,h3⟩
    simp only at h1 h2 h3 ⊢
    have hi1:w64 ((i:Int)+1)=((i+1:Nat):Int):=by rw[dh (by omega) (by omega)];rfl
    have hle:=h2.length_le
    refine hZ _ ⟨h1,i+1,hi1,by simp only;omega,λk hk a ha he=>?_⟩ (by simp only[hi1];omega)
    simp only at he ⊢
    by_cases hki:k=i
    ·subst hki
     exact h3 a ha (by rw[←he];obtain⟨t,rfl⟩:=h2;exact(List.getElem?_append_left hlt).symm)
    ·have hk2:k<i:=by omega
     refine h2.subset (hcl k hk2 a ha ?_)
     rw[←he]
     obtain⟨t,rfl⟩:=h2
     exact(List.getElem?_append_left (by omega)).symm
  ·obtain rfl:i=out.length:=by omega
   rw[decide_eq_false (by omega),cond_false]
   refine Ok.chk (by simp;omega) (Ok.s ⟨afm hI.nd,λx=>?_⟩)
   rw[yF]
   refine⟨hI.con x,λh=>xd h (λa ha hf=>?_) hI.root⟩
   obtain⟨k,hk⟩:=List.getElem?_of_mem hf
   exact hcl k (List.getElem?_eq_some_iff.1 hk).1 a ha hk
end Go.Proofs.YtmnbolcmepihlaaGreat
namespace Go.Proofs.YtmnbolcmepihlaaGreat
set_option linter.all false
open Go
structure DOk(g:aq)(d:aR):Prop where
 root:d.bK∈ids g
 asc:d.bq.Pairwise (·<·)
 recv:∀x∈d.bq,x∈ids g
 len:d.bq.length≤6
 gb:1≤d.eD∧d.eD≤1000
variable {d:aR}
theorem adN{g:aq}(hv:Vt g)(h:DOk g d):iI g d=some 0:=by
 have hl:=h.len
 have hr:=h.gb
 have hnr:=hv.nr
 unfold iI
 rw[decide_eq_false (by omega),cond_false]
 refine(uk (λa b:Int=>decide (a<b)) (some 25) (λj x y r q s Z hL hj=>by
  simp only[pW hL hj (by omega),bx]
  by_cases h:y<x
  ·have:¬x≤y:=by omega
   simp[h,this]
  ·have:x≤y:=by omega
   simp[h,this]) _).trans ?_
 rw[show jt (λa b:Int=>decide (a<b)) d.bq=true from aav h.asc,cond_true]
 show bnd (gV _ _) _=_
 rw[nN (by simp;omega),bx]
 refine(lq (λr=>!hasB g r) (some 4) (λj x Z s=>by
  rw[aa6 g x (by omega),bx,decide_eq_true (pX.2 hv),Bool.true_and]) _ _ _).trans ?_
 rw[any_false.2 λx hx=>by
  rcases List.mem_append.1 hx with hx|hx
  ·rw[List.mem_singleton]at hx;subst hx;rw[lH.1 h.root];rfl
  ·rw[lH.1 (h.recv x hx)];rfl]
 simp only[cond_false]
 rw[decide_eq_false (by omega),decide_eq_false (by omega)]
 rfl
variable {ds:List aR}
theorem uy{g:aq}(hv:Vt g)(h:∀d∈ds,DOk g d)(hl:ds.length≤12):fL g ds=some 0:=by
 unfold fL
 rw[uo,bx,decide_eq_true (pX.2 hv),Bool.not_true,cond_false,decide_eq_false (by omega),cond_false]
 refine Ok.eq (Ok.forM (λ_ _=>True) (λj x s Z hj hx _ hZ=>?_) _ trivial λs _=>⟨0,rfl,rfl⟩)
 simp only[adN hv (h x hx),bx]
 exact hZ _ trivial
structure gO(g:aq)(r:RM):Prop where
 nd:(r.map (·.1)).Nodup
 key:∀h,h∈r.map (·.1)↔∃a∈gG g,a.Hop=h
 val:∀h v,bN bh r h=some v→0≤v∧v≤1000
variable {r:RM}
theorem gO.rg{g:aq}(h:gO g r)(x:aF):0≤eN r x∧eN r x≤1000:=by
 unfold eN
 cases hg:bN bh r x with
 |none=>simp
 |some v=>exact h.val x v hg
theorem gO.some{g:aq}{r:RM}(h:gO g r){a:af}(ha:a∈gG g):(bN bh r a.Hop).isSome=true:=by
 cases hg:bN bh r a.Hop with
 |none=>exact absurd ((h.key _).2 ⟨a,ha,rfl⟩) (abj.1 hg)
 |some v=>rfl
def whS(m:RM)(l:aY):RM:=dQ bh (dQ bh m (aF.mk l.A l.B) l.fh) (aF.mk l.B l.A) l.fh
def nq(g:aq):RM:=g.Links.foldl whS []
structure WhI(ls:List aY)(m:RM):Prop where
 nd:(m.map (·.1)).Nodup
 get:∀h v,bN bh m h=some v→∃l∈ls,(h=aF.mk l.A l.B∨h=aF.mk l.B l.A)∧v=l.fh
 key:∀l∈ls,aF.mk l.A l.B∈m.map (·.1)∧aF.mk l.B l.A∈m.map (·.1)
theorem uz{l:RM}{n:aF}{v:Int}{h:aF}:h∈(dQ bh l n v).map (·.1)↔h=n∨h∈l.map (·.1):=by
 rw[abk]
 split
 ·rename_i hn
  exact⟨.inr,λhh=>hh.elim (λe=>e▸hn) id⟩
 ·rw[List.mem_append,List.mem_singleton,or_comm]
theorem adO:∀(ls pre:List aY) (m:RM),WhI pre m→WhI (pre++ls) (ls.foldl whS m)
 |[],pre,m,h=>by simpa using h
 |x::r,pre,m,h=>by
  have:WhI (pre++[x]) (whS m x):=by
   refine⟨acw (acw h.nd _ _) _ _,λk v hk=>?_,λl hl=>?_⟩
   ·unfold whS at hk
    rw[ux,ux]at hk
    split at hk
    ·rename_i e;cases hk
     exact⟨x,by simp,.inr e,rfl⟩
    ·split at hk
     ·rename_i e;cases hk
      exact⟨x,by simp,.inl e,rfl⟩
     ·obtain⟨l,h1,h2⟩:=h.get k v hk
      exact⟨l,by simp[h1],h2⟩
   ·unfold whS
    rw[uz,uz,uz,uz]
    rcases List.mem_append.1 hl with hl|hl
    ·exact⟨.inr (.inr (h.key l hl).1),.inr (.inr (h.key l hl).2)⟩
    ·rw[List.mem_singleton]at hl;subst hl
     exact⟨.inr (.inl rfl),.inl rfl⟩
  have:=adO r (pre++[x]) _ this
  simpa using this
theorem al5(g:aq):WhI g.Links (nq g):=by
 have:=adO g.Links [] [] ⟨by simp,λh v hk=>by simp[bN]at hk,λl hl=>by cases hl⟩
 unfold nq
 simpa using this
theorem yJ(g:aq):gD g=some (nq g):=by
 unfold gD
 exact abi whS (λj x Z s=>rfl) _ _ _
theorem afA{g:aq}(hv:Vt g):gO g (nq g):=by
 have hW:=al5 g
 refine⟨hW.nd,λh=>⟨λhk=>?_,?_⟩,λh v hk=>?_⟩
 ·obtain⟨p,hp,rfl⟩:=List.mem_map.1 hk
  obtain⟨l,h1,h2,_⟩:=hW.get p.1 p.2 (acv hW.nd hp)
  rcases h2 with h2|h2
  ·exact⟨_,mz.2 ⟨l,h1,.inl rfl⟩,h2.symm⟩
  ·exact⟨_,mz.2 ⟨l,h1,.inr rfl⟩,h2.symm⟩
 ·rintro⟨a,ha,rfl⟩
  obtain⟨l,hl,rfl|rfl⟩:=mz.1 ha
  ·exact(hW.key l hl).1
  ·exact(hW.key l hl).2
 ·obtain⟨l,h1,_,rfl⟩:=hW.get h v hk
  have:=hv.okl l h1
  simp only[pU,Bool.or_eq_false_iff,decide_eq_false_iff_not]at this
  omega
variable {hs:List aF}
theorem afB{g:aq}(hr:gO g r){root n:Int}(hn:1≤n∧n≤1000)(hd:hs.Nodup)(hs1:∀h∈hs,(∃a∈gG g,a.Hop=h)∧n≤eN r h):
  Ok (cu r (aX.mk root hs) n) λp=>p.1=true∧gO g p.2∧∀h,eN p.2 h=eN r h-if h∈hs then n else 0:=by
 unfold cu
 refine Ok.aal (λpre (sg:Bool×RM)=>sg.1=true∧gO g sg.2∧∀h,eN sg.2 h=eN r h-if h∈pre then n else 0) ?_ _ ⟨rfl,hr,λh=>by simp⟩ ?_
 ·rintro pre x rest ⟨f,m⟩ Z hL ⟨rfl,h2,h3⟩ hZ
  simp only at h2 h3 hZ ⊢
  have hL:hs=pre++x::rest:=hL
  have hx:x∈hs:=by rw[hL];simp
  have hxp:x∉pre:=λh=>by
   rw[hL,List.nodup_append]at hd
   exact hd.2.2 x h x (by simp) rfl
  obtain⟨⟨a,ha,rfl⟩,hle⟩:=hs1 x hx
  have hg:=h3 a.Hop
  rw[if_neg hxp]at hg
  have hrg:=h2.rg a.Hop
  have hw:w64 (((bN bh m a.Hop).getD (0:Int))-n)=eN m a.Hop-n:=by
   show w64 (eN m a.Hop-n)=_
   exact dh (by omega) (by omega)
  have dB:∀h,eN (dQ bh m a.Hop (eN m a.Hop-n)) h=if h=a.Hop then eN m a.Hop-n else eN m h:=λh=>by
   unfold eN
   rw[ux]
   split<;>simp
  refine Ok.chk (h2.some ha) ?_
  rw[cond_true,hw]
  refine hZ _ ⟨?_,⟨acw h2.nd _ _,λh=>?_,λh v hk=>?_⟩,λh=>?_⟩
  ·have:=dB a.Hop
   rw[if_pos rfl]at this
   show decide (0≤eN (dQ bh m a.Hop (eN m a.Hop-n)) a.Hop)=true
   rw[this,decide_eq_true]
   omega
  ·rw[uz,h2.key]
   exact⟨λhh=>hh.elim (λe=>⟨a,ha,e.symm⟩) id,.inr⟩
  ·rw[ux]at hk
   split at hk
   ·cases hk;omega
   ·exact h2.val h v hk
  ·simp only
   rw[dB]
   by_cases he:h=a.Hop
   ·subst he
    rw[if_pos rfl,if_pos (by simp)];omega
   ·rw[if_neg he,h3 h]
    by_cases hp:h∈pre
    ·rw[if_pos hp,if_pos (by simp[hp])]
    ·rw[if_neg hp,if_neg (by simp[hp,he])]
 ·rintro⟨f,m⟩ h
  exact Ok.s h
def Step(g:aq)(r:RM)(d:aR)(t:aX)(r':RM):Prop:=
 (∃hs c,t=aX.mk d.bK hs∧nM (gd g r d.eD) d.bK d.bq hs c∧cu r t d.eD=some (true,r'))∨(t=aX.mk 0 []∧(¬∀x,x∈d.bq→Con bI (gd g r d.eD) d.bK x)∧r'=r)
inductive Pl(g:aq):List aR→List aX→RM→Prop
 |nil:Pl g [] [] (nq g)
 |snoc {ds:List aR} {out:List aX} {r r':RM} {d:aR} {t:aX} (h:Pl g ds out r) (hs:Step g r d t r'):Pl g (ds++[d]) (out++[t]) r'
variable {ai:List af}{c:Int}{ts:List Int}
theorem adP(hA:ig ai){root:Int}(h:nM ai root ts hs c):hs.Nodup∧∀x∈hs,∃a∈ai,a.Hop=x:=by
 refine⟨h.asc.imp λ{a b} hlt e=>?_,λx hx=>?_⟩
 ·subst e
  simp[cD]at hlt
 ·obtain⟨⟨Hs,hO,_,hp⟩,_⟩:=h
  obtain⟨a,ha,rfl⟩:=List.mem_map.1 (hp.mem_iff.1 hx)
  exact⟨a,hO.sub a ha,rfl⟩
theorem yK{g:aq}(hv:Vt g)(hr:gO g r)(hd:DOk g d){root:Int}(h:nM (gd g r d.eD) root d.bq hs c):
  Ok (cu r (aX.mk d.bK hs) d.eD) λp=>p.1=true∧gO g p.2∧∀h,eN p.2 h=eN r h-if h∈hs then d.eD else 0:=by
 obtain⟨h1,h2⟩:=adP (uW hv r d.eD) h
 refine afB hr hd.gb h1 λx hx=>?_
 obtain⟨a,ha,rfl⟩:=h2 x hx
 have:=sV.1 ha
 exact⟨⟨a,this.1,rfl⟩,this.2⟩
theorem Step.ok{g:aq}(hv:Vt g){r':RM}{t:aX}(h:Step g r d t r')(hr:gO g r)(hd:DOk g d):gO g r':=by
 rcases h with⟨hs,c,rfl,hb,ht⟩|⟨_,_,rfl⟩
 ·obtain⟨p,h1,_,h3,_⟩:=yK hv hr hd hb
  rw[ht]at h1;cases h1
  exact h3
 ·exact hr
theorem Pl.ok{g:aq}(hv:Vt g){ds:List aR}{out:List aX}{r:RM}(h:Pl g ds out r)(hd:∀d∈ds,DOk g d):gO g r:=by
 induction h with
 |nil=>exact afA hv
 |snoc h hs ih=>exact hs.ok hv (ih λd hd'=>hd d (by simp[hd'])) (hd _ (by simp))
theorem Pl.len{g:aq}{out:List aX}(h:Pl g ds out r):out.length=ds.length:=by
 induction h with
 |nil=>rfl
 |snoc h hs ih=>simp[ih]
theorem Pl.at{g:aq}{ds:List aR}{out:List aX}{r:RM}(h:Pl g ds out r):∀{i:Nat} {d:aR} {t:aX},ds[i]?=some d→out[i]?=some t→∃ri r',Pl g (ds.take i) (out.take i) ri∧Step g ri d t r':=by
 induction h with
 |nil=>intro i d t h;simp at h
 |@snoc ds out r r' d0 t0 h hs ih=>
  intro i d t h1 h2
  have hl:=h.len
  by_cases hi:i<ds.length
  ·rw[List.getElem?_append_left hi]at h1
   rw[List.getElem?_append_left (by omega)]at h2
   obtain⟨ri,r'',g1,g2⟩:=ih h1 h2
   exact⟨ri,r'',by rw[List.take_append_of_le_length (by omega),List.take_append_of_le_length (by omega)];exact g1,g2⟩
  ·obtain rfl:i=ds.length:=by
    have:=(List.getElem?_eq_some_iff.1 h1).1
    simp at this;omega
   simp at h1
   rw[←hl]at h2
   simp at h2
   subst h1;subst h2
   refine⟨r,r',?_,hs⟩
   rw[List.take_left,←hl,List.take_left]
   exact h
variable {β:Type}
theorem aoM{b:β}{root:Int}{K:(List aF×Int×Bool)→Option β}(hA:ig ai)(hl:ts.length≤6)(hK:∀x,ChS ai root ts x→Ok (K x) (λy=>y=b)):Ok (iH ai root ts K) (λy=>y=b):=by
 refine⟨b,?_,rfl⟩
 unfold iH
 rw[if_pos ⟨hA,hl⟩]
 refine ah7 ?_ λx hx=>Ok.eq (hK x hx)
 by_cases hc:∀t,t∈ts→Con bI ai root t
 ·obtain⟨hs,c,hb⟩:=ait hA hc
  exact⟨(hs,c,true),.inl ⟨rfl,hb⟩⟩
 ·exact⟨([],0,false),.inr ⟨rfl,hc⟩⟩
theorem aiC{a b:List af}(h:a.Perm b){root:Int}{x:List aF×Int×Bool}(hx:ChS a root ts x):ChS b root ts x:=by
 rcases hx with⟨h1,h2⟩|⟨h1,h2⟩
 ·exact .inl ⟨h1,adJ h h2⟩
 ·exact .inr ⟨h1,λhh=>h2 λt ht=>(hh t ht).mono λa ha=>h.mem_iff.2 ha⟩
theorem yL{b:β}{g:aq}(hv:Vt g)(hd:∀d∈ds,DOk g d)(hl:ds.length≤12){K:(List aX×Int)→Option β}(hK:∀out r,Pl g ds out r→K (out,0)=some b):gE g ds K=some b:=by
 unfold gE
 rw[uy hv hd hl,bx,decide_eq_true rfl,Bool.not_true,cond_false,yJ,bx]
 refine Ok.eq (Ok.chk (by simp;omega) ?_)
 refine Ok.aal (λpre (sg:List aX×RM)=>∃out,sg.1=out++List.replicate (ds.length-pre.length) (aX.mk 0 [])∧Pl g pre out sg.2) ?_ _ ⟨[],by simp,.nil⟩ ?_
 ·rintro pre d rest ⟨o,m⟩ Z hL ⟨out,h1,h2⟩ hZ
  simp only at h1 h2 hZ ⊢
  subst h1
  have hdd:=hd d (by rw[hL];simp)
  have hm:=h2.ok hv λd hd'=>hd d (by rw[hL];simp[hd'])
  have hlen:=h2.len
  have hn:ds.length=pre.length+1+rest.length:=by rw[hL];simp;omega
  have fG:List.replicate (ds.length-pre.length) (aX.mk 0 [])=aX.mk 0 []::List.replicate (ds.length-(pre++[d]).length) (aX.mk 0 []):=by
   rw[List.length_append,List.length_singleton,←List.replicate_succ]
   congr 1;omega
  obtain⟨q,hq,hp⟩:=agB hv m d.eD
  simp only[jn,hq,bx]
  refine aoM (abf hp (uW hv m d.eD)) hdd.len λx hx=>?_
  have hx:=aiC hp hx
  obtain⟨hs,c,ok⟩:=x
  rcases hx with⟨e,hb⟩|⟨e,hn⟩
  ·simp only at e hb
   subst e
   obtain⟨p,g1,g2,g3,g4⟩:=yK hv hm hdd hb
   obtain⟨f,m'⟩:=p
   simp only at g2 g3 g4
   subst g2
   have hlt:pre.length<(out++List.replicate (ds.length-pre.length) (aX.mk 0 [])).length:=by simp;omega
   obtain⟨t0,e1,_⟩:=kG (l:=out++List.replicate (ds.length-pre.length) (aX.mk 0 [])) (i:=(pre.length:Int)) (by omega) (by omega)
   have e2:ow (out++List.replicate (ds.length-pre.length) (aX.mk 0 [])) (pre.length:Int) (aX.mk d.bK hs)=some ((out++[aX.mk d.bK hs])++List.replicate (ds.length-(pre++[d]).length) (aX.mk 0 [])):=by
    obtain⟨w,g5,g6,_⟩:=aai (l:=out++List.replicate (ds.length-pre.length) (aX.mk 0 [])) (i:=(pre.length:Int)) (x:=aX.mk d.bK hs) (by omega) (by omega)
    rw[g5,g6,fG,Int.toNat_natCast,←hlen,List.set_append_right _ _ (Nat.le_refl _)]
    simp
   have e3:elO ((out++[aX.mk d.bK hs])++List.replicate (ds.length-(pre++[d]).length) (aX.mk 0 [])) (pre.length:Int)=some (aX.mk d.bK hs):=by
    rw[←hlen,List.append_assoc];exact adu _ _ _
   simp only[cond_true,e1,e2,e3,g1,bx]
   exact hZ _ ⟨out++[aX.mk d.bK hs],rfl,.snoc h2 (.inl ⟨hs,c,rfl,hb,g1⟩)⟩
  ·injection e with e1 e2
   injection e2 with e2 e3
   subst e1;subst e2;subst e3
   simp only[cond_false]
   exact hZ _ ⟨out++[aX.mk 0 []],by simp only;rw[fG,List.append_assoc];rfl,.snoc h2 (.inr ⟨rfl,hn,rfl⟩)⟩
 ·rintro⟨o,m⟩ ⟨out,h1,h2⟩
  simp only at h1 h2 ⊢
  rw[Nat.sub_self,List.replicate_zero,List.append_nil]at h1
  subst h1
  exact⟨b,hK _ _ h2,rfl⟩
end Go.Proofs.YtmnbolcmepihlaaGreat
namespace Go.Proofs.YtmnbolcmepihlaaGreat
set_option linter.all false
open Go
theorem aaP{t:bp}{g:aq}{n:Int}(h:eM t)(hg:1≤g.aS.length∧g.aS.length≤1000)(hn:0≤n∧n≤1000):Ok (kr t g n) (λp=>((∀d∈p.1,DOk g d)∧(p.1.length:Int)≤n)∧eM p.2):=by
 unfold kr
 rw[dh (by omega) (by omega)]
 refine Ok.bnd (f_n h (by omega)) λq hq=>?_
 have hq1:=hq.1.2.1 (by omega)
 refine Ok.whl (λsg:List aR×Int×List Int×Int=>((∀d∈sg.1,DOk g d)∧(sg.1.length:Int)+sg.2.1≤n∧0≤sg.2.1)∧eM (bp.mk sg.2.2.1 sg.2.2.2)) (λsg=>sg.2.1.toNat) ⟨⟨by simp,by simp;omega,hq.1.1⟩,hq.2⟩ (by simp only;omega) ?_
 rintro⟨out,i,L,A⟩ Z ⟨⟨h1,h3,h4⟩,h5⟩ hZ
 simp only at h1 h3 h4
 refine Ok.cs (λhc=>?_) λhc=>Ok.s ⟨⟨h1,by simp only;omega⟩,h5⟩
 simp only[decide_eq_true_eq]at hc
 refine vD h5 hg λp r hp hr hid=>?_
 refine Ok.bnd (afr (g:=g) hp hg.2 (by omega)) λl hl=>?_
 obtain⟨l,t2⟩:=l
 obtain⟨⟨l1,l2,l3⟩,ht2⟩:=hl
 simp only at l1 l2 l3 ht2 ⊢
 refine Ok.bnd (uu ht2 (by simp) (by simp)) λk hk=>?_
 obtain⟨hk1,hk2⟩:=hk
 simp only[List.mem_cons,List.not_mem_nil,or_false]at hk1
 rw[nN (by simp;omega),bx,dh (by omega) (by omega)]
 refine hZ _ ⟨⟨λd hd=>?_,by simp;omega,by simp only;omega⟩,hk2⟩ (by simp only;omega)
 rcases List.mem_append.1 hd with hd|hd
 ·exact h1 d hd
 ·rw[List.mem_singleton]at hd;subst hd
  exact⟨hid,l1,l2,by simp only;omega,by simp only;omega⟩
def ldR(p:aF×Int):bP:=bP.mk p.1.aJ p.1.To p.2
def sW(r:RM):List bP:=r.map ldR
def wu(x:bP):aF:=aF.mk x.aJ x.To
variable {r:RM}
theorem aaw{g:aq}(hr:gO g r):r.length≤2*g.Links.length:=by
 have:=oW (b:=(gG g).map (·.Hop)) hr.nd λx hx=>by
  obtain⟨a,ha,rfl⟩:=(hr.key x).1 hx
  exact List.mem_map.2 ⟨a,ha,rfl⟩
 simpa [p9]using this
theorem adR{g:aq}(hv:Vt g)(hr:gO g r):∃l,iK r=some l∧l.Perm (sW r):=by
 have h1:=aaw hr
 have h2:=hv.nl
 unfold iK
 rw[if_pos (by omega)]
 obtain⟨m,g1,g2,_⟩:=uf (ks:=[λx:bP=>x.aJ,λx:bP=>x.To]) (l:=sW r) (by
  unfold sW
  rw[List.pairwise_map]
  exact(List.pairwise_map.1 hr.nd).imp λ{a b} h=>adH h) (by simp[sW];omega)
 exact⟨m,g1,g2⟩
theorem adS(h:aF):∀(ls:List bP) (m:RM),bN bh (ls.foldl (λm x=>dQ bh m (aF.mk x.aJ x.To) x.Count) m) h=((ls.reverse.find? λx=>decide (wu x=h)).map (·.Count)).or (bN bh m h)
 |[],m=>by simp
 |x::r,m=>by
  rw[List.foldl_cons,adS h r,ux,List.reverse_cons,List.find?_append]
  cases hf:r.reverse.find? λx=>decide (wu x=h)with
  |some y=>simp
  |none=>
   simp only[Option.map_none,Option.none_or,List.find?_cons,List.find?_nil]
   by_cases he:h=aF.mk x.aJ x.To
   ·rw[if_pos he,decide_eq_true (show wu x=h from he.symm)];rfl
   ·rw[if_neg he,decide_eq_false (show ¬wu x=h from λe=>he e.symm)];rfl
variable {l:List bP}
theorem adT(hnd:(r.map (·.1)).Nodup)(hp:l.Perm (sW r))(h:aF):bN bh (og l) h=bN bh r h:=by
 have hmem:∀x,x∈l↔(wu x,x.Count)∈r:=λx=>by
  rw[hp.mem_iff]
  constructor
  ·intro hx
   obtain⟨p,hp,rfl⟩:=List.mem_map.1 hx
   exact hp
  ·intro hx
   exact List.mem_map.2 ⟨_,hx,rfl⟩
 unfold og
 rw[adS,List.reverse_reverse]
 have e0:bN bh ([]:RM) h=none:=rfl
 rw[e0,Option.or_none]
 cases hf:l.find? λx=>decide (wu x=h)with
 |some x=>
  have h1:=List.find?_some hf
  simp only[decide_eq_true_eq]at h1
  subst h1
  exact(acv hnd ((hmem x).1 (List.mem_of_find?_eq_some hf))).symm
 |none=>
  simp only[Option.map_none]
  symm
  rw[abj]
  intro hk
  obtain⟨p,hp,rfl⟩:=List.mem_map.1 hk
  have:=List.find?_eq_none.1 hf (ldR p) ((hmem _).2 hp)
  simp[wu,ldR]at this
theorem acz{g:aq}(hnd:(r.map (·.1)).Nodup)(hp:l.Perm (sW r))(n:Int):gd g (og l) n=gd g r n:=by
 have:∀h,eN (og l) h=eN r h:=λh=>by unfold eN;rw[adT hnd hp]
 unfold gd
 simp only[this]
theorem yM{α σ β:Type}{B:Int→α→(σ→Option β)→σ→Option β}(x:α):∀(l:List α) (j:Nat) (K:σ→Option β) (s:σ),bZ (l++[x]) j B K s=bZ l j B (λs'=>B ((j+l.length:Nat):Int) x K s') s
 |[],j,K,s=>rfl
 |y::r,j,K,s=>by
  simp only[List.cons_append,bZ]
  congr 1
  funext s'
  rw[yM x r (j+1) K s']
  congr 1
  funext s2
  rw[show j+1+r.length=j+(y::r).length by simp;omega]
variable {ds es:List aR}{out:List aX}
theorem aiD{β:Type}{g:aq}(hv:Vt g)(hd:∀d∈ds,DOk g d){B:Int→aX→(RM→Option β)→RM→Option β}
  (hB:∀(j:Nat) d t r r' Z,ds[j]?=some d→Step g r d t r'→gO g r→DOk g d→B (j:Int) t Z r=Z r')    (h:Pl g es out r):es <+: ds→∀K,bZ out 0 B K (nq g)=K r:=by
 induction h with
 |nil=>intro _ K;rfl
 |@snoc es out r r' d t h hs ih=>
  intro hp K
  obtain⟨fs,hf⟩:=hp
  rw[yM,ih ⟨d::fs,by rw[←hf];simp⟩,Nat.zero_add,h.len]
  refine hB _ d t r r' K (by rw[←hf];simp) hs (h.ok hv λd hd'=>hd d (by rw[←hf];simp[hd'])) (hd d (by rw[←hf];simp))
theorem al6{α:Type}{l:List α}{j:Nat}{x:α}(h:l[j]?=some x):elO l (j:Int)=some x:=by unfold elO;rw[if_pos (by omega),Int.toNat_natCast];exact h
theorem afC(x:aX):jh x=some (decide (x.bK=0)&&decide (x.Links.length=0)):=by
 unfold jh
 rw[show decide ((x.Links.length:Int)=0)=decide (x.Links.length=0)by rw[Bool.eq_iff_iff];simp]
theorem adU(r:RM)(root n:Int):cu r (aX.mk root []) n=some (true,r):=rfl
theorem aax{g:aq}(hv:Vt g)(hd:∀d∈ds,DOk g d)(hl:ds.length≤12)(h:Pl g es out r)(hp:es <+: ds):∃l,fE g ds out=some (l,0)∧l.Perm (sW r):=by
 have hle:=hp.length_le
 have hlen:=h.len
 obtain⟨l,h1,h2⟩:=adR hv (h.ok hv λd hd'=>hd d (hp.subset hd'))
 refine⟨l,?_,h2⟩
 unfold fE
 rw[uy hv hd hl,bx,decide_eq_true rfl,Bool.not_true,cond_false,decide_eq_false (by omega),cond_false,yJ,bx]
 refine(aiD hv hd (λj d t r r' Z hj hs hr hdd=>?_) h hp _).trans ?_
 ·simp only[al6 hj,afC,bx,jn]
  rcases hs with⟨hs,c,rfl,hb,ht⟩|⟨rfl,hn,rfl⟩
  ·have hnz:=(rC hv hdd.root).1
   have hlen:=afx (uW hv r d.eD) hb
   rw[decide_eq_false (by simp only;omega),Bool.false_and,Bool.not_false,cond_true,aau _ _ _ (by simp only;omega) (by simp),bx,
    aiA hv (λa ha=>(sV.1 ha).1) hdd.root hb List.Pairwise.nil (λx hx=>by cases hx) (λx hx=>by cases hx),decide_eq_true rfl,Bool.not_true,cond_false,ht,bx]
   rfl
  ·simp only[adU,bx,List.length_nil,decide_true,Bool.and_self,Bool.not_true,cond_false]
 ·rw[h1,bx]
theorem adV{g:aq}(hv:Vt g)(r:RM)(d:aR):∃l,iL g r d=some (l,d.bq.all λx=>decide (x∈l))∧l.Pairwise (·<·)∧∀x,x∈l↔Con bI (gd g r d.eD) d.bK x:=by
 obtain⟨q,hq,hp⟩:=agB hv r d.eD
 have hA:=abf hp (uW hv r d.eD)
 obtain⟨l,h1,h2,h3⟩:=rz hA.len d.bK
 have hlen:l.length≤1000000:=by
  have:=oW (b:=d.bK::q.map (·.Hop.To)) (h2.imp λh=>by omega) λx hx=>by
   rcases uX ((h3 x).1 hx)with rfl|⟨a,ha,rfl⟩
   ·simp
   ·exact List.mem_cons_of_mem _ (List.mem_map.2 ⟨a,ha,rfl⟩)
  have:=hA.len
  simp at *
  omega
 refine⟨l,?_,h2,λx=>by rw[h3];exact⟨λh=>h.mono λa ha=>hp.mem_iff.1 ha,λh=>h.mono λa ha=>hp.mem_iff.2 ha⟩⟩
 unfold iL
 rw[hq,bx,h1,bx]
 refine(lq (λx=>!decide (x∈l)) (some (l,false)) (λj x Z s=>by
  obtain⟨i,hi⟩:=al4 hlen h2 x
  rw[hi,bx]) _ _ _).trans ?_
 have e:(d.bq.any λx=>!decide (x∈l))=!(d.bq.all λx=>decide (x∈l)):=by
  rw[List.any_eq_not_all_not];simp
 rw[e]
 cases d.bq.all λx=>decide (x∈l)<;>rfl
theorem vE{g:aq}(hv:Vt g)(hr:gO g r)(hp:l.Perm (sW r)){d:aR}(hd:DOk g d)(hn:¬∀x,x∈d.bq→Con bI (gd g r d.eD) d.bK x):
  ∃w,fq g l d=some (w,0)∧w.Pairwise (·<·)∧∀x,x∈w↔Con bI (gd g r d.eD) d.bK x:=by
 obtain⟨w,h1,h2,h3⟩:=adV hv (og l) d
 rw[acz hr.nd hp]at h3
 refine⟨w,?_,h2,h3⟩
 have hlen:=hp.length_eq
 have:=aaw hr
 have:=hv.nl
 unfold fq j8
 rw[uy hv (λx hx=>by rw[List.mem_singleton]at hx;subst hx;exact hd) (by simp),bx,decide_eq_true rfl,Bool.not_true,cond_false,if_pos (by rw[hlen];simp[sW];omega),bx,h1,bx]
 have e:(d.bq.all λx=>decide (x∈w))=false:=by
  cases h:d.bq.all λx=>decide (x∈w)with
  |false=>rfl
  |true=>
   rw[List.all_eq_true]at h
   exact absurd (λx hx=>(h3 x).1 (by simpa using h x hx)) hn
 simp only[e,cond_false]
end Go.Proofs.YtmnbolcmepihlaaGreat
namespace Go.Proofs.YtmnbolcmepihlaaGreat
set_option linter.all false
open Go
variable {out:List aX}{r:RM}
theorem Pl.inv{g:aq}{ds:List aR}{d:aR}(h:Pl g (ds++[d]) out r):∃o t r',out=o++[t]∧Pl g ds o r'∧Step g r' d t r:=by
 generalize he:ds++[d]=l at h
 cases h with
 |nil=>simp at he
 |snoc h hs=>
  obtain⟨h1,h2⟩:=List.append_inj' he rfl
  cases h2
  subst h1
  exact⟨_,_,_,rfl,h,hs⟩
theorem Pl.inv0{g:aq}(h:Pl g [] out r):out=[]∧r=nq g:=by
 generalize he:([]:List aR)=l at h
 cases h with
 |nil=>exact⟨rfl,rfl⟩
 |snoc h hs=>simp at he
theorem aay{ai:List af}(hA:∀b∈ai,1≤b.cV){a:af}(ha:a∈ai)(hc:a.cV=1)(hu:∀b∈ai,b.Hop.To=a.Hop.To→b=a)(hne:a.Hop.To≠a.Hop.aJ){hs:List aF}{c:Int}(h:nM ai a.Hop.aJ [a.Hop.To] hs c):hs=[a.Hop]:=by
 obtain⟨⟨Hs,hO,_,hp⟩,_⟩:=h
 have h1:=hO.cov a.Hop.To (by simp)
 have hin:a∈Hs:=by
  rcases uX h1 with e|⟨b,hb,e⟩
  ·exact absurd e hne
  ·exact hu b (hO.sub b hb) e▸hb
 have h2:=hO.min [a] (by intro x hx;rw[List.mem_singleton]at hx;subst hx;exact ha) (by intro t ht;rw[List.mem_singleton]at ht;subst ht;exact Con.one (N:=bI) (by simp))
 have e:dI bI [a]=1:=by simp[dI,bI,hc]
 have h3:∀l:List af,(∀b∈l,b∈ai)→(l.length:Int)≤dI bI l:=λl=>by
  induction l with
  |nil=>intro _;simp[dI]
  |cons b r ih=>
   intro hl
   have:=ih λx hx=>hl x (by simp[hx])
   have hb:=hA b (hl b (by simp))
   rw[fD,List.length_cons]
   have:bI.cost b=b.cV:=rfl
   omega
 have h4:=h3 Hs hO.sub
 have h5:Hs.length=1:=by
  have:=List.length_pos_of_mem hin
  omega
 obtain⟨b,rfl⟩:=List.length_eq_one_iff.1 h5
 rw[List.mem_singleton]at hin
 subst hin
 exact List.perm_singleton.1 hp
def jj:aq:=aq.mk [(aW.mk 1 true),(aW.mk 2 true)] [(aY.mk 1 2 1 1 5)]
theorem aiE:jP=some jj:=rfl
theorem uY:Vt jj:=pX.1 (by kernel_rfl)
def a12:af:=⟨⟨1,2⟩,1⟩
def a21:af:=⟨⟨2,1⟩,1⟩
def pr1:RM:=[(⟨1,2⟩,2),(⟨2,1⟩,5)]
theorem acA:gd jj (nq jj) 3=[a12,a21]:=by kernel_rfl
theorem sX:gd jj pr1 3=[a21]:=by kernel_rfl
theorem acB:gd jj pr1 4=[a21]:=by kernel_rfl
theorem abl:¬∀x,x∈[(2:Int)]→Con bI [a21] 1 x:=λh=>by
 rcases uX (h 2 (by simp))with e|⟨b,hb,e⟩
 ·cases e
 ·rw[List.mem_singleton]at hb;subst hb;cases e
def qo:List aR:=[(aR.mk (1:Int) ([(2:Int)]:List Int) (3:Int)),(aR.mk (1:Int) ([(2:Int)]:List Int) (3:Int)),(aR.mk (2:Int) ([(1:Int)]:List Int) (4:Int))]
theorem sY:∀d∈qo,DOk jj d:=by
 intro d hd
 simp only[qo,List.mem_cons,List.not_mem_nil,or_false]at hd
 rcases hd with rfl|rfl|rfl<;>exact⟨by decide,by simp,by simp[ids,jj],by simp,by simp⟩
theorem aiF:ku=some true:=by
 unfold ku
 simp only[aiE,bx]
 refine yL uY sY (by decide) λout r h=>?_
 have hc:∀{r1 r2:RM} {t:aX} {d:aR} {ts:List af},gd jj r1 d.eD=ts→(∀x,x∈d.bq→Con bI ts d.bK x)→Step jj r1 d t r2→∃hs c,t=aX.mk d.bK hs∧nM ts d.bK d.bq hs c∧cu r1 t d.eD=some (true,r2):=λe hc hs=>by
  subst e
  rcases hs with h|⟨_,h,_⟩
  ·exact h
  ·exact absurd hc h
 obtain⟨o,t3,r2,rfl,h,s3⟩:=Pl.inv (ds:=[(aR.mk (1:Int) ([(2:Int)]:List Int) (3:Int)),(aR.mk (1:Int) ([(2:Int)]:List Int) (3:Int))]) h
 obtain⟨o,t2,r1,rfl,h,s2⟩:=Pl.inv (ds:=[(aR.mk (1:Int) ([(2:Int)]:List Int) (3:Int))]) h
 have hp1:=h
 obtain⟨o,t1,r0,rfl,h,s1⟩:=Pl.inv (ds:=[]) h
 obtain⟨rfl,rfl⟩:=h.inv0
 obtain⟨hs,c,rfl,hb,ht⟩:=hc acA (by intro x hx;rw[List.mem_singleton]at hx;subst hx;exact Con.one (N:=bI) (a:=a12) (by simp)) s1
 have e1:hs=[⟨1,2⟩]:=aay (a:=a12) (by decide) (by simp) rfl (by intro b hb h;simp only[List.mem_cons,List.not_mem_nil,or_false]at hb;rcases hb with rfl|rfl;rfl;cases h) (by decide) hb
 subst e1
 have e1:r1=pr1:=by
  have e:cu (nq jj) (aX.mk 1 [⟨1,2⟩]) 3=some (true,pr1):=by kernel_rfl
  rw[e]at ht;cases ht;rfl
 subst e1
 have s2:t2=aX.mk 0 []∧r2=pr1:=by
  rcases s2 with⟨hs,c,_,hb,_⟩|⟨h1,_,h3⟩
  ·obtain⟨⟨Hs,hO,_,_⟩,_⟩:=hb
   have hb:=hO.cov
   exact absurd (λx hx=>(hb x hx).mono λa ha=>by have:=hO.sub a ha;rwa [show gd jj pr1 _=[a21]from sX]at this) abl
  ·exact⟨h1,h3⟩
 obtain⟨rfl,rfl⟩:=s2
 obtain⟨hs,c,rfl,hb,ht⟩:=hc acB (by intro x hx;rw[List.mem_singleton]at hx;subst hx;exact Con.one (N:=bI) (a:=a21) (by simp)) s3
 have e1:hs=[⟨2,1⟩]:=aay (a:=a21) (by decide) (by simp) rfl (by intro b hb h;rw[List.mem_singleton]at hb;exact hb) (by decide) hb
 subst e1
 obtain⟨l,hl,hlp⟩:=aax uY sY (by decide) hp1 ⟨_,rfl⟩
 obtain⟨w,hw,hw2,hw3⟩:=vE uY (hp1.ok uY λd hd=>sY d (by simp at hd;simp[hd,qo])) hlp (sY (aR.mk (1:Int) ([(2:Int)]:List Int) (3:Int)) (by simp[qo])) (by rw[show gd jj pr1 _=[a21]from sX];exact abl)
 have ew:w=[1]:=by
  refine adA hw2 (by simp) λx=>?_
  rw[hw3,show gd jj pr1 _=[a21]from sX,List.mem_singleton]
  constructor
  ·intro h
   have:=xd h (l:=[1]) (by intro a ha hf;rw[List.mem_singleton]at ha;subst ha;simp[a21]at hf) (by simp)
   simpa using this
  ·rintro rfl;exact .refl _
 subst ew
 have h0:mc [aX.mk 1 [⟨1,2⟩],aX.mk 0 [],aX.mk 2 [⟨2,1⟩]] (0:Int) (1:Int)=some [aX.mk 1 [⟨1,2⟩]]:=by kernel_rfl
 have hl:fE jj qo [aX.mk 1 [⟨1,2⟩]]=some (l,0):=hl
 have h1:elO qo (1:Int)=some (aR.mk (1:Int) ([(2:Int)]:List Int) (3:Int)):=by kernel_rfl
 show(bif (!decide ((0:Int)=0))||(!decide ((3:Int)=3))then some false else bnd (mc [aX.mk 1 [⟨1,2⟩],aX.mk 0 [],aX.mk 2 [⟨2,1⟩]] (0:Int) (1:Int)) λ(l_1:List aX)=>bnd (fE jj qo l_1) λck=>bnd (elO qo (1:Int)) λe_1=>bnd (fq jj ck.1 e_1) _)=_
 rw[h0,bx,hl,bx,h1,bx,hw,bx,alY]
 rfl
end Go.Proofs.YtmnbolcmepihlaaGreat
