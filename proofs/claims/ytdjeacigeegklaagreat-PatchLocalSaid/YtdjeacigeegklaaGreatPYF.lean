/- Plain: yb, lists, trees aX the later ye tape makes. No condition but bB aX stand in each. -/
import Derived.Test.YtdjeacigeegklaaGreatPYE
namespace Go.Proofs.YtdjeacigeegklaaGreat
set_option linter.all false
open Go
theorem ado{t:aZ}{g:aa}{γ:Type}{Q:γ→Prop}{k:Int×aZ→aM→Option γ}(h:dz t)(hg:1≤g.aq.length∧g.aq.length≤1000)(hk:∀p r,dz p.2→r∈g.aq→r.ID∈ids g→Ok (k p r) Q):
  Ok (bnd (bG t (g.aq.length:Int)) λp=>bnd (elO g.aq p.1) λr=>k p r) Q:=
 Ok.bnd (f_n h (by omega)) λp hp=>Ok.bnd (iJ hp.1.1 (hp.1.2.1 (by omega))) λr hr=>hk p r hp.2 hr.1 (List.mem_map.2 ⟨r,hr.1,rfl⟩)
theorem akf{t:aZ}{g:aa}{n:Int}(h:dz t)(hg:g.aq.length≤1000)(hn:0≤n∧n≤1000):Ok (pT t g n) (λp=>(p.1.Pairwise (·<·)∧(∀x∈p.1,x∈ids g)∧(p.1.length:Int)≤n)∧dz p.2):=by
 unfold pT
 rw[gF (by omega) (by omega)]
 refine Ok.bnd (f_n h (by omega)) λq hq=>?_
 have hq1:=hq.1.2.1 (by omega)
 refine Ok.whl (λsg:List Int×Int×List Int×Int=>(sg.1.Pairwise (·<·)∧(∀x∈sg.1,x∈ids g)∧(sg.1.length:Int)+sg.2.1≤n∧0≤sg.2.1)∧dz (aZ.mk sg.2.2.1 sg.2.2.2)) (λsg=>sg.2.1.toNat) ⟨⟨by simp,by simp,by simp;omega,hq.1.1⟩,hq.2⟩ (by simp only;omega) ?_
 rintro⟨out,i,L,A⟩ Z ⟨⟨h1,h2,h3,h4⟩,h5⟩ hZ
 simp only at h1 h2 h3 h4
 refine Ok.cs (λhc=>?_) λhc=>Ok.s ⟨⟨h1,h2,by simp only;omega⟩,h5⟩
 simp only[Bool.and_eq_true,decide_eq_true_eq]at hc
 refine ado h5 (by omega) λp r hp hr hid=>?_
 rw[azl _ _ (by omega),aR,gF (by omega) (by omega)]
 have:=acY out r.ID
 refine hZ _ ⟨⟨adV h1,λx hx=>?_,by simp only;omega,by simp only;omega⟩,hp⟩ (by simp only;omega)
 rcases zm.1 hx with rfl|hx
 ·exact hid
 ·exact h2 x hx
def rQ:List cw→cw→List cw
 |[],x=>[x]
 |y::r,x=>if ltH y x then y::rQ r x else x::y::r
theorem qB:∀{l:List cw} {x y:cw},y∈rQ l x↔y=x∨y∈l
 |[],x,y=>by simp[rQ]
 |z::r,x,y=>by
  rw[rQ]
  split
  ·rw[List.mem_cons,qB,List.mem_cons]
   constructor
   ·rintro(h|h|h)<;>simp[h]
   ·rintro(h|h|h)<;>simp[h]
  ·simp
theorem abE:∀(l:List cw) (x:cw),(rQ l x).Perm (x::l)
 |[],x=>by simp[rQ]
 |z::r,x=>by
  rw[rQ]
  split
  ·exact((abE r x).cons z).trans (.swap x z r)
  ·exact .refl _
theorem agh{a b:cw}(h:ltH a b=false)(hne:a≠b):ltH b a=true:=by
 cases a;cases b
 simp[ltH]at *
 omega
theorem ad1:∀{l:List cw} {x:cw},l.Pairwise (λa b=>ltH a b=true)→x∉l→(rQ l x).Pairwise (λa b=>ltH a b=true)
 |[],x,_,_=>by simp[rQ]
 |z::r,x,h,hx=>by
  rw[rQ]
  rw[List.pairwise_cons]at h
  simp only[List.mem_cons,not_or]at hx
  split
  ·rename_i hz
   rw[List.pairwise_cons]
   refine⟨λy hy=>?_,ad1 h.2 hx.2⟩
   rcases qB.1 hy with rfl|hy
   ·exact hz
   ·exact h.1 y hy
  ·rename_i hz
   have hzx:ltH x z=true:=agh (by simpa using hz) (Ne.symm hx.1)
   rw[List.pairwise_cons,List.pairwise_cons]
   refine⟨λy hy=>?_,h⟩
   rcases List.mem_cons.1 hy with rfl|hy
   ·exact hzx
   ·exact agd _ _ _ hzx (h.1 y hy)
theorem Rch.mono{root:Int}{L L':List cw}(h:∀x∈L,x∈L'){y:Int}(hr:Rch root L y):Rch root L' y:=by
 induction hr with
 |root=>exact .root
 |step x hx _ ih=>exact .step x (h x hx) ih
theorem Vr.reach{t:mm}(h:Vr t){x:Int}(hx:x=t.nq∨∃h∈t.Links,h.To=x):Rch t.nq t.Links x:=by
 rcases hx with rfl|⟨y,hy,rfl⟩
 ·exact .root
 ·exact .step y hy (h.rch y hy)
theorem Vr.add{t:mm}(h:Vr t){x:cw}(hr:(1≤x.ez∧x.ez≤99)∧1≤x.To∧x.To≤99)(hf:x.ez=t.nq∨∃h∈t.Links,h.To=x.ez)(ht:¬(x.To=t.nq∨∃h∈t.Links,h.To=x.To)):Vr (mm.mk t.nq (rQ t.Links x)):=by
 rw[not_or]at ht
 have hx:x∉t.Links:=λhm=>ht.2 ⟨x,hm,rfl⟩
 have hsub:∀y∈t.Links,y∈rQ t.Links x:=λy hy=>qB.2 (.inr hy)
 refine⟨h.rt,λy hy=>?_,ad1 h.asc hx,?_,λy hy=>?_,λy hy=>?_⟩
 ·rcases qB.1 hy with rfl|hy
  ·exact hr
  ·exact h.rng y hy
 ·refine((abE t.Links x).pairwise_iff (λ{a b} (hab:a.To≠b.To)=>Ne.symm hab)).2 ?_
  rw[List.pairwise_cons]
  exact⟨λy hy e=>ht.2 ⟨y,hy,e.symm⟩,h.dup⟩
 ·rcases qB.1 hy with rfl|hy
  ·exact ht.1
  ·exact h.nrt y hy
 ·rcases qB.1 hy with rfl|hy
  ·exact(h.reach hf).mono hsub
  ·exact(h.rch y hy).mono hsub
theorem abV{g:aa}(hv:Vt g){x:Int}(h:x∈ids g):1≤x∧x≤99:=by
 obtain⟨r,hr,rfl⟩:=List.mem_map.1 h
 exact hv.idr r hr
end Go.Proofs.YtdjeacigeegklaaGreat
