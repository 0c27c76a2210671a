/- Plain: aaV, lists, trees bx the later aaY tape makes. No condition but bO bx stand in each. -/
import Derived.Test.YtdjeacigeegklaaGreatPYE
namespace Go.Proofs.YtdjeacigeegklaaGreat
set_option linter.all false
open Go
theorem ahQ{t:aX}{g:aa}(h:dO t)(hg:g.ah.length≤1000):Ok (qk t g) (λp=>(p.1∈ids g∨p.1∈[0,98,100])∧dO p.2):=by
 unfold qk
 refine Ok.jn (λsg:Bool×List Int×Int=>dO (aX.mk sg.2.1 sg.2.2)∧(sg.1=false→1≤g.ah.length)) (λs hs=>?_) λJ hJ=>?_
 ·obtain⟨v,L,A⟩:=s
  obtain⟨h1,h2⟩:=hs
  refine Ok.cs (λ_=>?_) λhv=>?_
  ·exact Ok.bnd (wM h1 (by simp) (by simp)) λq hq=>Ok.s ⟨.inr hq.1,hq.2⟩
  ·have h2:=h2 hv
   refine Ok.bnd (f_n h1 (by omega)) λq hq=>Ok.bnd (jJ hq.1.1 (hq.1.2.1 (by omega))) λr hr=>Ok.s ⟨.inl ?_,hq.2⟩
   exact List.mem_map.2 ⟨r,hr.1,rfl⟩
 ·refine Ok.cs (λ_=>hJ _ ⟨h,λh=>by cases h⟩) λhc=>?_
  have hc:¬((g.ah.length:Int)=0):=by simpa using hc
  exact Ok.bnd (f_n h (by omega)) λq hq=>hJ _ ⟨hq.2,λ_=>by omega⟩
theorem af5{t:aX}{g:aa}{γ:Type}{Q:γ→Prop}{k:Int×aX→aQ→Option γ}(h:dO t)(hg:1≤g.ah.length∧g.ah.length≤1000)(hk:∀p r,dO p.2→r∈g.ah→r.ID∈ids g→Ok (k p r) Q):
  Ok (bnd (bB t (g.ah.length:Int)) λp=>bnd (elO g.ah p.1) λr=>k p r) Q:=
 Ok.bnd (f_n h (by omega)) λp hp=>Ok.bnd (jJ hp.1.1 (hp.1.2.1 (by omega))) λr hr=>hk p r hp.2 hr.1 (List.mem_map.2 ⟨r,hr.1,rfl⟩)
theorem alf{t:aX}{g:aa}{n:Int}(h:dO t)(hg:g.ah.length≤1000)(hn:0≤n∧n≤1000):Ok (ta t g n) (λp=>(p.1.Pairwise (·<·)∧(∀x∈p.1,x∈ids g)∧(p.1.length:Int)≤n)∧dO p.2):=by
 unfold ta
 rw[iM (by omega) (by omega)]
 refine Ok.bnd (f_n h (by omega)) λq hq=>?_
 have hq1:=hq.1.2.1 (by omega)
 refine Ok.whl (λsg:List Int×Int×List Int×Int=>(sg.1.Pairwise (·<·)∧(∀x∈sg.1,x∈ids g)∧(sg.1.length:Int)+sg.2.1≤n∧0≤sg.2.1)∧dO (aX.mk sg.2.2.1 sg.2.2.2)) (λsg=>sg.2.1.toNat) ⟨⟨by simp,by simp,by simp;omega,hq.1.1⟩,hq.2⟩ (by simp only;omega) ?_
 rintro⟨out,i,L,A⟩ Z ⟨⟨h1,h2,h3,h4⟩,h5⟩ hZ
 simp only at h1 h2 h3 h4
 refine Ok.cs (λhc=>?_) λhc=>Ok.s ⟨⟨h1,h2,by simp only;omega⟩,h5⟩
 simp only[Bool.and_eq_true,decide_eq_true_eq]at hc
 refine af5 h5 (by omega) λp r hp hr hid=>?_
 rw[axm _ _ (by omega),aN,iM (by omega) (by omega)]
 have:=afz out r.ID
 refine hZ _ ⟨⟨agD h1,λx hx=>?_,by simp only;omega,by simp only;omega⟩,hp⟩ (by simp only;omega)
 rcases abQ.1 hx with rfl|hx
 ·exact hid
 ·exact h2 x hx
def uR:List bU→bU→List bU
 |[],x=>[x]
 |y::r,x=>if ltH y x then y::uR r x else x::y::r
theorem ug:∀{l:List bU} {x y:bU},y∈uR l x↔y=x∨y∈l
 |[],x,y=>by simp[uR]
 |z::r,x,y=>by
  rw[uR]
  split
  ·rw[List.mem_cons,ug,List.mem_cons]
   constructor
   ·rintro(h|h|h)<;>simp[h]
   ·rintro(h|h|h)<;>simp[h]
  ·simp
theorem aeg:∀(l:List bU) (x:bU),(uR l x).Perm (x::l)
 |[],x=>by simp[uR]
 |z::r,x=>by
  rw[uR]
  split
  ·exact((aeg r x).cons z).trans (.swap x z r)
  ·exact .refl _
theorem aiX{a b:bU}(h:ltH a b=false)(hne:a≠b):ltH b a=true:=by
 cases a;cases b
 simp[ltH]at *
 omega
theorem agJ:∀{l:List bU} {x:bU},l.Pairwise (λa b=>ltH a b=true)→x∉l→(uR l x).Pairwise (λa b=>ltH a b=true)
 |[],x,_,_=>by simp[uR]
 |z::r,x,h,hx=>by
  rw[uR]
  rw[List.pairwise_cons]at h
  simp only[List.mem_cons,not_or]at hx
  split
  ·rename_i hz
   rw[List.pairwise_cons]
   refine⟨λy hy=>?_,agJ h.2 hx.2⟩
   rcases ug.1 hy with rfl|hy
   ·exact hz
   ·exact h.1 y hy
  ·rename_i hz
   have hzx:ltH x z=true:=aiX (by simpa using hz) (Ne.symm hx.1)
   rw[List.pairwise_cons,List.pairwise_cons]
   refine⟨λy hy=>?_,h⟩
   rcases List.mem_cons.1 hy with rfl|hy
   ·exact hzx
   ·exact aiU _ _ _ hzx (h.1 y hy)
theorem Rch.mono{root:Int}{L L':List bU}(h:∀x∈L,x∈L'){y:Int}(hr:Rch root L y):Rch root L' y:=by
 induction hr with
 |root=>exact .root
 |step x hx _ ih=>exact .step x (h x hx) ih
theorem Vr.reach{t:oZ}(h:Vr t){x:Int}(hx:x=t.qd∨∃h∈t.Links,h.To=x):Rch t.qd t.Links x:=by
 rcases hx with rfl|⟨y,hy,rfl⟩
 ·exact .root
 ·exact .step y hy (h.rch y hy)
theorem Vr.add{t:oZ}(h:Vr t){x:bU}(hr:(1≤x.dF∧x.dF≤99)∧1≤x.To∧x.To≤99)(hf:x.dF=t.qd∨∃h∈t.Links,h.To=x.dF)(ht:¬(x.To=t.qd∨∃h∈t.Links,h.To=x.To)):Vr (oZ.mk t.qd (uR t.Links x)):=by
 rw[not_or]at ht
 have hx:x∉t.Links:=λhm=>ht.2 ⟨x,hm,rfl⟩
 have hsub:∀y∈t.Links,y∈uR t.Links x:=λy hy=>ug.2 (.inr hy)
 refine⟨h.rt,λy hy=>?_,agJ h.asc hx,?_,λy hy=>?_,λy hy=>?_⟩
 ·rcases ug.1 hy with rfl|hy
  ·exact hr
  ·exact h.rng y hy
 ·refine((aeg t.Links x).pairwise_iff (λ{a b} (hab:a.To≠b.To)=>Ne.symm hab)).2 ?_
  rw[List.pairwise_cons]
  exact⟨λy hy e=>ht.2 ⟨y,hy,e.symm⟩,h.dup⟩
 ·rcases ug.1 hy with rfl|hy
  ·exact ht.1
  ·exact h.nrt y hy
 ·rcases ug.1 hy with rfl|hy
  ·exact(h.reach hf).mono hsub
  ·exact(h.rch y hy).mono hsub
theorem aeG{g:aa}(hv:Vt g){x:Int}(h:x∈ids g):1≤x∧x≤99:=by
 obtain⟨r,hr,rfl⟩:=List.mem_map.1 h
 exact hv.idr r hr
end Go.Proofs.YtdjeacigeegklaaGreat
