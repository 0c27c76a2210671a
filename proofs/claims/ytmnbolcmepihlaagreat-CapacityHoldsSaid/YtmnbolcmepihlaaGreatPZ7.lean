/- Plain: aR ux alu qE true. bM bN. -/
import Derived.Test.YtmnbolcmepihlaaGreatPB1
import Derived.Test.YtmnbolcmepihlaaGreatDL7
namespace Go.Proofs.YtmnbolcmepihlaaGreat
set_option linter.all false
open Go
structure Eh(g:b0)(r m:fT):Prop where
 nd:(m.map (·.1)).Nodup
 key:∀h,h∈m.map (·.1)→∃a∈jZ g,a.Hop=h
 val:∀h,gB m h=gB (oc g) h-gB r h
theorem abU(m:fT)(n h:bh)(v:Int):gB (ga c2 m n v) h=if h=n then v else gB m h:=by
 unfold gB;rw[Ap];split<;>rfl
variable {ds:List dQ}{r:fT}{zZ:List c0}
theorem WI{β:Type}{g:b0}(af:h6 g)(Z:∀d∈ds,nR g d){σ:Type}(R:fT→σ→Prop){B:Int→c0→(σ→Option β)→σ→Option β}{Q:β→Prop}
  (fv:∀(j:Nat) d t r r' s bW,ds[j]?=some d→vh g r d t r'→mT g r→nR g d→R r s→(∀dg,R r' dg→Ok (bW dg) Q)→Ok (B (j:Int) t bW s) Q)   (h:km g ds zZ r) {h5:σ} (bJ:R (oc g) h5) {K:σ→Option β} (fz:∀s,R r s→Ok (K s) Q):Ok (ez zZ 0 B K h5) Q:=by
 have key:∀(es:List dQ) (out:List c0) (r:fT),km g es out r→es <+: ds→∀K:σ→Option β,(∀s,R r s→Ok (K s) Q)→Ok (ez out 0 B K h5) Q:=by
  intro es out r aB;induction aB with
  |nil=>intro _ K fz;exact fz _ bJ
  |@snoc es out r r' d t h W bD=>
   intro h1 K fz;obtain⟨kO,be⟩:=h1;rw[LV];refine bD ⟨d::kO,by rw[←be];simp⟩ _ λs h4=>?_;rw[Nat.zero_add,h.len];exact fv es.length d t r r' s K (by rw[←be];simp) W (h.ok af λd dw=>Z d (by rw[←be];simp[dw])) (Z d (by rw[←be];simp)) h4 fz
 exact key ds zZ r h (List.prefix_refl _) K fz
variable {m:fT}
theorem XW(fm:(m.map (·.1)).Nodup)(aJ:m.length≤100000):∃l,vo m=some l∧l.Perm (oR m):=by
 unfold vo;rw[if_pos aJ]
 obtain⟨q,cF,cW,_⟩:=Gc (ks:=[λx:ep=>x.bg,λx:ep=>x.aQ]) (l:=oR m) (by
  unfold oR;rw[List.pairwise_map];exact(List.pairwise_map.1 fm).imp λ{a b} h=>HG h) (by simp[oR];omega)
 exact⟨q,cF,cW⟩
theorem Eh.len{g:b0}(h:Eh g r m):m.length≤2*g.Links.length:=by
 have:=x1 (b:=(jZ g).map (·.Hop)) h.nd λx u=>by
  obtain⟨a,aC,rfl⟩:=h.key x u;exact List.mem_map.2 ⟨a,aC,rfl⟩
 simpa [vW]using this
theorem XX{g:b0}(af:h6 g)(Z:∀d∈ds,nR g d)(aJ:ds.length≤12)(h:km g ds zZ r):
  Ok (CC zZ (ds.map (·.hM))) λp=>p.2=0∧∃m,Eh g r m∧p.1.Perm (oR m):=by
 have eF:=h.len;have jQ:=af.nl;unfold CC;rw[decide_eq_true (by rw[List.length_map,eF]),Bool.not_true,cond_false];refine Ok.forM (λ_ _=>True) (λj x s bW _ u _ hb=>?_) _ trivial λs _=>?_
 ·obtain⟨d,nX,rfl⟩:=List.mem_map.1 u;have:=(Z d nX).jk;rw[decide_eq_false (by omega),decide_eq_false (by omega)];exact hb _ trivial
 ·rw[decide_eq_false (by omega),cond_false];refine WI af Z (λr m=>Eh g r m) (λj d t r r' m bW aM W ax nX b2 hb=>?_) h ⟨by simp,by simp,λh=>by simp[gB,c3]⟩ λm hm=>?_
  ·simp only[jn,Oe,ee];rcases W with⟨W,c,rfl,V,bB⟩|⟨rfl,aT,rfl⟩
   ·have aht:=(Dh af nX.root).1;have RU:=Dj af r d.hM;have R1:=Oc RU V;have vA:=NI af (λa aC=>(C9.1 aC).1) nX.root V;obtain⟨fm,fA⟩:=Uy RU V;obtain⟨p,cF,_,ht,lQ⟩:=LU af ax nX V;rw[bB]at cF;cases cF
    simp only at ht lQ;have anU:=nX.jk;have e0:¬d.er=0:=by omega
    rw[decide_eq_false e0,Bool.false_and,cond_false,KP _ (by show W.length≤_;omega),ee,HF.2 vA,decide_eq_true rfl,Bool.not_true,cond_false];have xO:dj (ds.map (·.hM)) (j:Int)=some d.hM:=hN (by rw[List.getElem?_map,aM];rfl);simp only[xO,ee];refine Ok.Bc (λpre (m2:fT)=>(m2.map (·.1)).Nodup∧(∀h,h∈m2.map (·.1)→∃a∈jZ g,a.Hop=h)∧∀h,gB m2 h=gB m h+if h∈pre then d.hM else 0) ?_ _ ⟨b2.nd,b2.key,λh=>by simp⟩ ?_
    ·rintro pre x hy m2 bG iZ ⟨p6,qW,p7⟩ ha;have iZ:W=pre++x::hy:=iZ;have u:x∈W:=by rw[iZ];simp
     have E1:x∉pre:=λh=>by
      rw[iZ,List.nodup_append]at fm;exact fm.2.2 x h x (by simp) rfl
     obtain⟨a,aC,rfl⟩:=fA x u;have aC:=(C9.1 aC).1;have Kc:=p7 a.Hop;rw[if_neg E1,b2.val a.Hop]at Kc;have aq:=(Da af).rg a.Hop;have zz:=ax.rg a.Hop;have aA:bK (((c3 c2 m2 a.Hop).getD (0:Int))+d.hM)=gB m2 a.Hop+d.hM:=by
      show bK (gB m2 a.Hop+d.hM)=_;exact hW (by omega) (by omega)
     rw[aA];refine ha _ ⟨Hs p6 _ _,λh cb=>?_,λh=>?_⟩
     ·rcases Aq.1 cb with rfl|cb
      ·exact⟨a,aC,rfl⟩
      ·exact qW h cb
     ·rw[abU];by_cases he:h=a.Hop
      ·subst he;rw[if_pos rfl,if_pos (by simp),p7,if_neg E1];omega
      ·rw[if_neg he,p7 h];by_cases aB:h∈pre
       ·rw[if_pos aB,if_pos (by simp[aB])]
       ·rw[if_neg aB,if_neg (by simp[aB,he])]
    ·rintro m2 ⟨p6,qW,p7⟩;refine hb _ ⟨p6,qW,λh=>?_⟩;rw[p7 h,b2.val h,lQ h];omega
   ·simp only[List.length_nil,decide_true,Bool.and_self,cond_true];exact hb _ b2
  ·have Sk:=hm.len;obtain⟨l,h1,D⟩:=XW hm.nd (by omega);rw[h1,ee];exact Ok.s ⟨rfl,m,hm,D⟩
theorem Ge{α β:Type}{B:Int→α→(Int→Option β)→Int→Option β}{K:Int→Option β}(p:α→Bool)(v:α→Int)(fv:∀j x bW s,B j x bW s=bif p x then bW (v x)else bW s){c:Int}:∀(l:List α) (j:Nat) (s:Int),(∀x∈l,p x=true→v x=c)→((∃x∈l,p x=true)∨s=c)→ez l j B K s=K c
 |[],j,s,_,h=>by
  rcases h with⟨x,u,_⟩|rfl
  ·cases u
  ·rfl
 |x::r,j,s,h1,D=>by
  rw[ez,fv];cases aB:p x with
  |true=>
   rw[cond_true];exact Ge p v fv r (j+1) _ (λy ah=>h1 y (by simp[ah])) (.inr (h1 x (by simp) aB))
  |false=>
   rw[cond_false];refine Ge p v fv r (j+1) _ (λy ah=>h1 y (by simp[ah])) ?_;rcases D with⟨y,ah,bR⟩|D
   ·rcases List.mem_cons.1 ah with rfl|ah
    ·rw[aB]at bR;cases bR
    ·exact .inl ⟨y,ah,bR⟩
   ·exact .inr D
theorem XY{g:b0}(af:h6 g){h:bh}{l:c8}(aJ:l∈g.Links)(cb:h=bh.mk l.A l.B∨h=bh.mk l.B l.A):gB (oc g) h=l.kY:=by
 have i4:=OL g;obtain⟨v,W⟩:=Option.isSome_iff_exists.1 (show(c3 c2 (oc g) h).isSome=true by
  rcases cb with rfl|rfl
  ·exact(Da af).some (tc.2 ⟨l,aJ,.inl rfl⟩)
  ·exact(Da af).some (tc.2 ⟨l,aJ,.inr rfl⟩))
 obtain⟨k,h1,D,rfl⟩:=i4.get h v W;have:gB (oc g) h=k.kY:=by unfold gB;rw[W];rfl
 rw[this];have aA:=af.lt l aJ;have e2:=af.lt k h1;have:l=k:=by
  have anu:l.A=k.A∧l.B=k.B:=by
   rcases cb with rfl|rfl<;>rcases D with D|D<;>injection D with an au<;>constructor<;>omega
  have zy:=af.Bj;obtain⟨i,hi⟩:=List.getElem?_of_mem aJ;obtain⟨j,aM⟩:=List.getElem?_of_mem h1;obtain⟨s4,hi⟩:=List.getElem?_eq_some_iff.1 hi;obtain⟨mh,aM⟩:=List.getElem?_eq_some_iff.1 aM;rcases Nat.lt_trichotomy i j with g2|g2|g2
  ·have:=List.pairwise_iff_getElem.1 zy i j s4 mh g2;rw[hi,aM]at this;simp only[mM,Bool.or_eq_true,Bool.and_eq_true,decide_eq_true_eq]at this;omega
  ·subst g2;rw[←hi,←aM]
  ·have:=List.pairwise_iff_getElem.1 zy j i mh s4 g2;rw[hi,aM]at this;simp only[mM,Bool.or_eq_true,Bool.and_eq_true,decide_eq_true_eq]at this;omega
 rw[this]
theorem akW(t:List Int):EE t=some true:=by
 unfold EE;refine Ok.eq (Ok.bf (aeo t) λs W=>Ok.bf (Vp W (by omega)) λp aB=>?_);obtain⟨g,t1⟩:=p;obtain⟨bl,bB⟩:=aB;have af:h6 g:=bl.v;have Sn:=af.FN;have jQ:=af.nl;have p1:1≤g.dU.length:=bl.n.1;simp only at bB ⊢;refine Ok.bf (VJ (g:=g) bB (by omega) (by omega)) λq bR=>?_;obtain⟨ds,t2⟩:=q;obtain⟨⟨Z,aJ⟩,_⟩:=bR;simp only at Z aJ ⊢;refine⟨true,Uz af Z (by omega) λout r ml=>?_,rfl⟩;have eF:=ml.len;simp only[decide_true,eF,Bool.not_true,Bool.or_self,cond_false];refine(LY (λd:dQ=>[d.hM]) (λj x bW s=>rfl) 1 (λx=>Nat.le_refl _) _ _ _ (by simp;omega)).trans ?_
 have afG:[]++ds.flatMap (λd:dQ=>[d.hM])=ds.map (·.hM):=by
  rw[List.nil_append]
  have:∀l:List dQ,l.flatMap (λd:dQ=>[d.hM])=l.map (·.hM):=λl=>by
   induction l with
   |nil=>rfl
   |cons a r bD=>rw[List.flatMap_cons,bD];rfl
  exact this ds
 rw[afG];obtain⟨⟨L,e⟩,h1,D,m,hm,RS⟩:=XX af Z (by omega) ml;simp only at D RS;subst D;obtain⟨R,ak,RV⟩:=Of af Z (by omega) ml (List.prefix_refl _);have ax:=ml.ok af Z;have JH:R.length=2*g.Links.length:=by
  rw[RV.length_eq];have h1:=LZ ax;have D:=x1 (a:=(jZ g).map (·.Hop)) (b:=r.map (·.1)) (by
   show List.Pairwise _ _;rw[List.pairwise_map]
   exact MF af) λx u=>by
    obtain⟨a,aC,rfl⟩:=List.mem_map.1 u;exact(ax.key _).2 ⟨a,aC,rfl⟩
  simp[vW]at D;simp[oR];omega
 have lE:bK ((2:Int)*(g.Links.length:Int))=((2*g.Links.length:Nat):Int):=by rw[hW (by omega) (by omega)];omega
 rw[h1,ee,ak,ee];simp only[decide_true,JH,lE,Bool.not_true,Bool.or_self,cond_false];refine Ok.eq (Ok.forM (λ_ _=>True) (λj x _ bW _ u _ hb=>?_) _ trivial λ_ _=>by rw[aar];exact⟨true,rfl,rfl⟩);obtain⟨p,aB,rfl⟩:=List.mem_map.1 (RV.mem_iff.1 u);have hk:p.1∈r.map (·.1):=List.mem_map.2 ⟨p,aB,rfl⟩;obtain⟨a,aC,he⟩:=(ax.key p.1).1 hk;have ahF:gB r p.1=p.2:=by unfold gB;rw[Hr ax.nd aB];rfl
 have Su:=ax.rg p.1;have an0:=(Da af).rg p.1;have ahr:=hm.val p.1;obtain⟨lk,vH,pU⟩:=tc.1 aC;have J3:p.1=bh.mk lk.A lk.B∨p.1=bh.mk lk.B lk.A:=by
  rw[←he];rcases pU with rfl|rfl
  ·exact .inl rfl
  ·exact .inr rfl
 have Si:∀x,x∈L↔(j9 x,x.Count)∈m:=λx=>by
  rw[RS.mem_iff];constructor
  ·intro u;obtain⟨q,bR,rfl⟩:=List.mem_map.1 u;exact bR
  ·intro u;exact List.mem_map.2 ⟨_,u,rfl⟩
 refine(congrArg (λo=>Ok o λx=>x=true) (Ge (c:=gB m p.1) (λx:ep=>decide (x.bg=(mL p).bg)&&decide (x.aQ=(mL p).aQ)) (λx=>x.Count) (λj x bW s=>rfl) L 0 0 (λx u n2=>?_) ?_)).mpr ?_
 ·have fA:=(Si x).1 u;simp only[Bool.and_eq_true,decide_eq_true_eq]at n2;have:j9 x=p.1:=by
   cases bR:p.1 with
   |mk f t=>
    have jj:=n2.1;have a2:=n2.2
    simp only[mL,bR]at jj a2;simp[j9,jj,a2]
  rw[this]at fA;unfold gB;rw[Hr hm.nd fA];rfl
 ·by_cases JZ:p.1∈m.map (·.1)
  ·obtain⟨q,bR,vP⟩:=List.mem_map.1 JZ;refine .inl ⟨mL q,(Si _).2 bR,?_⟩;simp only[Bool.and_eq_true,decide_eq_true_eq];have vP:q.1=p.1:=vP;exact⟨by simp[mL,vP],by simp[mL,vP]⟩
  ·exact .inr (by unfold gB;rw[MH.2 JZ];rfl)
 refine(congrArg (λo=>Ok o λx=>x=true) (Ge (c:=gB (oc g) p.1) (λk:c8=>bif decide (k.A=(mL p).bg)then((decide (k.B=(mL p).aQ))||((decide (k.B=(mL p).bg))&&(decide (k.A=(mL p).aQ))))else((decide (k.B=(mL p).bg))&&(decide (k.A=(mL p).aQ)))) (λk=>k.kY) (λj x bW s=>rfl) g.Links 0 (-1) (λk p0 n2=>?_) (.inl ⟨lk,vH,?_⟩))).mpr ?_
 ·refine(XY af p0 ?_).symm;have:(k.A=p.1.bg∧k.B=p.1.aQ)∨(k.B=p.1.bg∧k.A=p.1.aQ):=by
   revert n2
   show(bif decide (k.A=p.1.bg)then _ else _)=true→_;by_cases dR:k.A=p.1.bg
   ·rw[decide_eq_true dR,cond_true,Bool.or_eq_true,Bool.and_eq_true,decide_eq_true_eq,decide_eq_true_eq,decide_eq_true_eq];rintro(h|h)
    ·exact .inl ⟨dR,h⟩
    ·exact .inr h
   ·rw[decide_eq_false dR,cond_false,Bool.and_eq_true,decide_eq_true_eq,decide_eq_true_eq];exact λh=>.inr h
  cases bR:p.1 with
  |mk f t=>
   rw[bR]at this;simp only at this;rcases this with⟨rfl,rfl⟩|⟨rfl,rfl⟩
   ·exact .inl rfl
   ·exact .inr rfl
 ·show(bif decide (lk.A=p.1.bg)then _ else _)=true;rcases J3 with h|h
  ·rw[h];simp[mL,h]
  ·rw[h];simp[mL,h]
 ·have b6:bK (gB m p.1+(mL p).Count)=gB (oc g) p.1:=by
   show bK (gB m p.1+p.2)=_;rw[ahr,←ahF,hW (by omega) (by omega)];omega
  rw[b6,decide_eq_true rfl,decide_eq_false (show ¬(mL p).Count<0 by show ¬p.2<0;omega)];exact hb _ trivial
end Go.Proofs.YtmnbolcmepihlaaGreat
