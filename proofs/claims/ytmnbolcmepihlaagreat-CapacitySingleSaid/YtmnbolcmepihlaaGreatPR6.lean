/- Plain: the law aa5 answers true. No condition. -/
import Derived.Test.YtmnbolcmepihlaaGreatPB1
import Derived.Test.YtmnbolcmepihlaaGreatDL6
namespace Go.Proofs.YtmnbolcmepihlaaGreat
set_option linter.all false
open Go
theorem xD{α β:Type}{B:Int→α→(Bool→Option β)→Bool→Option β}{K:Bool→Option β}(p:α→Bool)(hB:∀j x Z s,B j x Z s=bif s then Z (p x)else Z false):∀(l:List α) (j:Nat) (s:Bool),bz l j B K s=K (s&&l.all p)
 |[],j,s=>by simp[bz]
 |x::r,j,s=>by
  rw[bz,hB];cases s with
  |false=>simp only[cond_false];rw[xD p hB r (j+1)];simp
  |true=>simp only[cond_true];rw[xD p hB r (j+1)];simp
def sev(l:aU):aU:=aU.mk l.A l.B l.ec l.eB 7
def g7(g:af):af:=af.mk g.ay (g.Links.map sev)
theorem vt7{g:af}(hv:Vt g):Vt (g7 g):=by
 refine⟨hv.nr,by simpa [g7]using hv.nl,hv.idr,hv.asc,λl hl=>?_,λl hl=>?_,λl hl=>?_,?_⟩
 ·obtain⟨x,hx,rfl⟩:=List.mem_map.1 hl;have:=hv.okl x hx;simp only[nQ,Bool.or_eq_false_iff]at this ⊢;exact⟨⟨⟨this.1.1.1,this.1.1.2⟩,rfl⟩,rfl⟩
 ·obtain⟨x,hx,rfl⟩:=List.mem_map.1 hl;exact hv.ends x hx
 ·obtain⟨x,hx,rfl⟩:=List.mem_map.1 hl;exact hv.lt x hx
 ·show(g.Links.map sev).Pairwise _;rw[List.pairwise_map];exact hv.ac7
theorem aiW{β:Type}{Q:β→Prop}{K:List aU→Option β}(L:List aU)(hK:Ok (K (L.map sev)) Q):Ok (bz L 0 (λ(j1:Int) (e1:aU) (Z1:(List aU)→Option β) (m_1:(List aU))=>bnd (elO m_1 (j1:Int)) λ(e_1:aU)=>bnd (jU m_1 (j1:Int) (aU.mk e_1.A e_1.B e_1.ec e_1.eB (7:Int))) λ(l_1:List aU)=>Z1 l_1) K L) Q:=by
 refine Ok.qm (λpre (m:List aU)=>∃r,L=pre++r∧m=pre.map sev++r) ?_ _ ⟨L,rfl,rfl⟩ ?_
 ·rintro pre x r m Z hL ⟨r',h1,rfl⟩ hZ;have:r'=x::r:=by rw[hL]at h1;exact(List.append_cancel_left h1).symm
  subst this;have e1:elO (pre.map sev++x::r) (pre.length:Int)=some x:=by
   have:=xe (pre.map sev) x r
   rwa [List.length_map]at this
  have e2:jU (pre.map sev++x::r) (pre.length:Int) (sev x)=some ((pre++[x]).map sev++r):=by
   obtain⟨w,g5,g6,_⟩:=ue (l:=pre.map sev++x::r) (i:=(pre.length:Int)) (x:=sev x) (by omega) (by simp;omega);rw[g5,g6,Int.toNat_natCast,List.set_append_right _ _ (by simp)];simp
  rw[e1,aM];show Ok (bnd (jU _ _ (sev x)) _) Q;rw[e2,aM];exact hZ _ ⟨r,by simp[hL],rfl⟩
 ·rintro m ⟨r,h1,rfl⟩;have:r=[]:=by simpa using h1
  subst this;simpa using hK
theorem aj2{g:af}(hv:Vt g){a:ai}(ha:a∈dS (g7 g)):eM (lU (g7 g)) a.Hop=7:=by
 obtain⟨v,hs⟩:=Option.isSome_iff_exists.1 ((adr (vt7 hv)).some ha);obtain⟨l,h1,_,rfl⟩:=(agO (g7 g)).get _ _ hs;obtain⟨x,hx,rfl⟩:=List.mem_map.1 h1;unfold eM;rw[hs];rfl
theorem aj3{g:af}(hv:Vt g){n:Int}(h:n≤7):gT (g7 g) (lU (g7 g)) n=dS (g7 g):=
 List.filter_eq_self.2 λa ha=>by rw[aj2 hv ha];exact decide_eq_true h
theorem asR{g:af}(hv:Vt g):gT (g7 g) (lU (g7 g)) 8=[]:=
 List.filter_eq_nil_iff.2 λa ha=>by rw[aj2 hv ha];simp
theorem al9(b:Bool)(n:Int):nu b n=some (bif b then n else 0):=by cases b<;>rfl
theorem agW{g:af}{d:bf}{out:List aQ}{r:RM}(h:Pl g [d] out r):∃t,out=[t]∧Step g (lU g) d t r:=by
 obtain⟨o,t,r',rfl,h1,h2⟩:=Pl.inv (ds:=[]) h;obtain⟨rfl,rfl⟩:=h1.ap2;exact⟨t,rfl,h2⟩
theorem vN(t:List Int):iP t=some true:=by
 unfold iP;refine Ok.eq (Ok.bnd (asJ t) λs hs=>Ok.bnd (adh hs (by omega)) λp hp=>?_);obtain⟨g,t1⟩:=p;obtain⟨hg,ht⟩:=hp;have hv:Vt g:=hg.v;have hnr:=hv.nr;have hn1:1≤g.ay.length:=hg.n.1;have hv7:=vt7 hv;simp only at ht ⊢;refine aiW g.Links ?_;refine yy (g:=g) ht (by omega) λq x hq hx hid=>?_;refine Ok.bnd (aiC (g:=g7 g) hq (by show g.ay.length≤_;omega) (by omega)) λl hl=>?_;obtain⟨l,t2⟩:=l;obtain⟨⟨l1,l2,l3⟩,ht2⟩:=hl;simp only at l1 l2 l3 ht2 ⊢;refine Ok.bnd (xV ht2) λk hk=>?_;obtain⟨k,t3⟩:=k;have hk:=hk.1 (by omega) (by omega) (by omega);simp only at hk ⊢;have afq:x.ID∈ids (g7 g):=hid;have hnz:=(rX hv7 afq).1
 have hdk:∀n:Int,1≤n→n≤1000→∀d∈[bf.mk x.ID l n],DOk (g7 g) d:=λn h1 h2 d hd=>by
  rw[List.mem_singleton]at hd;subst hd
  exact⟨afq,l1,l2,by simp only;omega,h1,h2⟩
 have hdk8:=hdk 8 (by omega) (by omega);refine⟨true,xB hv7 (hdk k hk.1 (by omega)) (by simp) λout r hpl=>?_,rfl⟩;obtain⟨tr,rfl,hst⟩:=agW hpl
 have second:∀(b:Bool),(b=l.all λe=>decide (e=x.ID))→∀o2 r2,Pl (g7 g) [bf.mk x.ID l 8] o2 r2→o2=[aQ.mk (bif b then x.ID else 0) []]:=by
  rintro b rfl o2 r2 h2;obtain⟨t2,rfl,hs2⟩:=agW h2;rcases hs2 with⟨hs,c,rfl,hb,_⟩|⟨rfl,hn,_⟩
  ·rw[asR hv]at hb;obtain⟨⟨Hs,hO,_,hpm⟩,_⟩:=hb;have hH:Hs=[]:=List.eq_nil_iff_forall_not_mem.2 λa ha=>by have:=hO.sub a ha;cases this
   subst hH;have:hs=[]:=by simpa using hpm
   subst this
   have e:(l.all λe=>decide (e=x.ID))=true:=by
    rw[List.all_eq_true];intro y hy;rcases uk (hO.cov y hy)with h|⟨a,ha,_⟩
    ·simpa using h
    ·cases ha
   rw[e];rfl
  ·have e:(l.all λe=>decide (e=x.ID))=false:=by
    cases h:l.all λe=>decide (e=x.ID)with
    |false=>rfl
    |true=>
     rw[List.all_eq_true]at h;refine absurd (λy hy=>?_) hn;have:y=x.ID:=by simpa using h y hy
     subst this;exact .refl _
   rw[e];rfl
 have tail:∀(A:Option Bool),A=fT (af.mk g.ay (g.Links.map sev)) ([(bf.mk x.ID l (8:Int))]:List bf) (λ(gI:(List aQ)×Int)=>bz l 0 (λ(j2:Int) (e2:Int) (Z2:Bool→Option _) (mG:Bool)=>(bif mG then Z2 (decide (e2=x.ID))else Z2 false)) (λ(mG:Bool)=>(bif decide (gI.2=(0:Int))then(bif decide ((gI.1.length:Int)=(1:Int))then bnd (elO gI.1 (0:Int)) λ(e_5:aQ)=>bnd (nu mG x.ID) λ(s5:Int)=>bnd (iI e_5 (aQ.mk s5 [])) λ(mS:Bool)=>(bif mS then bnd (jZ) λ(rH:Bool)=>some rH else some false)else some false)else some false)) true)→A=some true:=by
  rintro A rfl;refine xB hv7 hdk8 (by simp) λo2 r2 h2=>?_;simp only;rw[xD (λe=>decide (e=x.ID)) (λj y Z s=>rfl),Bool.true_and,second _ rfl o2 r2 h2];have e0:∀y:aQ,elO [y] (0:Int)=some y:=λy=>xe [] y [];simp only[e0,aM,al9,al8];generalize (bif (l.all λe=>decide (e=x.ID))then x.ID else 0)=n;have:iI (aQ.mk n []) (aQ.mk n [])=some true:=by
   unfold iI;simp[bz]
  rw[this];rfl
 obtain⟨w,hw,hw1,hw2⟩:=adn hv7 afq l1 l2 (by omega);have hw:iJ (af.mk g.ay (g.Links.map sev)) x.ID l=some w:=hw;have e0:elO [tr] (0:Int)=some tr:=xe [] tr [];simp only[hw,aM,e0,jn];have hA:=ug hv7;rcases hst with⟨hs,c,rfl,hb,_⟩|⟨rfl,hn,_⟩
 ·rw[aj3 hv (by simp only;omega)]at hb;have hlen:=y7 hA hb;have hc:∀t,t∈l→Con bk (dS (g7 g)) x.ID t:=by
   obtain⟨⟨Hs,hO,_,_⟩,_⟩:=hb;exact λt ht=>(hO.cov t ht).mono hO.sub
  obtain⟨w3,w4⟩:=hw1 hc;have hcs:jH (af.mk g.ay (g.Links.map sev)) (aQ.mk x.ID hs)=some (aa3 (g7 g) (aQ.mk x.ID hs)):=aaa (g7 g) _ (by show hs.length≤_;omega);have asS:ab3 (g7 g) hs=c:=agJ hv7 hA (λa ha=>ha) hb;have hcw:c=w.1:=by
   obtain⟨⟨Hs,hO,h3,_⟩,_⟩:=hb;rw[w4 Hs hO,h3]
  have hcs2:aa3 (g7 g) (aQ.mk x.ID hs)=(c,0):=by
   unfold aa3;rw[aea hv7 (λa ha=>ha) afq hb (rs:=[]) List.Pairwise.nil (λx hx=>by cases hx) (λx hx=>by cases hx)];simp[asS]
  rw[hcs,hcs2];simp only[w3,aM,decide_true,Bool.not_true,List.length_singleton,hcw];exact tail _ rfl
 ·rw[aj3 hv (by simp only;omega)]at hn;have hw3:=hw2 hn;subst hw3;have hcs:jH (af.mk g.ay (g.Links.map sev)) (aQ.mk 0 [])=some (aa3 (g7 g) (aQ.mk 0 [])):=aaa (g7 g) _ (by simp);rw[hcs];have h0:¬(0:Int)=x.ID:=by omega
  simp only[aM,decide_true,Bool.not_true,List.length_singleton,decide_eq_false h0];exact tail _ rfl
end Go.Proofs.YtmnbolcmepihlaaGreat
