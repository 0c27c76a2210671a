/- Plain: the law wB is true. No condition. -/
import Derived.Test.YtmnbolcmepihlaaPQB
import Derived.Test.YtmnbolcmepihlaaPQC
import Derived.Test.YtmnbolcmepihlaaDL0
namespace Go.Proofs.Ytmnbolcmepihlaa
set_option linter.all false
open Go
theorem Vt.cutL{g:az}(hv:Vt g)(n:Nat):Vt (az.mk g.ay (g.Links.take n)):=by
 have hs:∀{l:bh},l∈g.Links.take n→l∈g.Links:=λh=>List.mem_of_mem_take h
 refine⟨hv.nr,?_,hv.idr,hv.asc,λl hl=>hv.okl l (hs hl),λl hl=>hv.ends l (hs hl),λl hl=>hv.lt l (hs hl),hv.aao.sublist (List.take_sublist _ _)⟩
 have:=hv.nl
 show(g.Links.take n).length≤60
 rw[List.length_take];omega
theorem uQ{β:Type}{B:Int→bh→(Int→Option β)→Int→Option β}{K:Int→Option β}{S:Nat}(hS:S<2 ^ 59)
  (hB:∀(j:Int) e Z n,B j e Z n=(chk (decide (0≤IntKind.wrap .u64 (w64 ((2:Int)*(j:Int)))))<|chk (decide (0≤IntKind.wrap .u64 (w64 ((w64 ((2:Int)*(j:Int)))+(1:Int)))))<|Z (w64 ((w64 (n+(w64 ((cQ .and .i64 (Int.fdiv (S:Int) (2 ^ min (IntKind.wrap .u64 (w64 ((2:Int)*(j:Int)))).toNat 64)) (1:Int))*e.fc))))+(w64 ((cQ .and .i64 (Int.fdiv (S:Int) (2 ^ min (IntKind.wrap .u64 (w64 ((w64 ((2:Int)*(j:Int)))+(1:Int)))).toNat 64)) (1:Int))*e.fS)))))) :
  ∀(l:List bh) (j:Nat) (n:Int),(∀x∈l,mR x=false)→j+l.length≤20→0≤n∧n≤2000*j→cc l j B K n=K (n+bP aW (pk S (2*j) (l.flatMap iD)))
 |[],j,n,_,_,_=>by simp[cc,pk,bP]
 |x::r,j,n,hb,hl,hn=>by
  simp only[List.length_cons]at hl
  have hc:=wm (hb x (by simp))
  obtain⟨a1,a2⟩:=ta S (2*j) hS (e:=(2:Int)*(j:Int)) (by omega) (by omega)
  have hw:w64 ((2:Int)*(j:Int))=(2:Int)*(j:Int):=cn (by omega) (by omega)
  obtain⟨b1,b2⟩:=ta S (2*j+1) hS (e:=w64 ((2:Int)*(j:Int))+1) (by rw[hw];omega) (by omega)
  rw[cc,hB,a1,b1,a2,b2]
  show cc r (j+1) B K _=_
  rw[List.flatMap_cons,s7]
  have e1:(iD x).length=2:=rfl
  rw[e1,qU]
  have e2:bP aW (pk S (2*j) (iD x))=(if S.testBit (2*j)then 1 else 0)*x.fc+(if S.testBit (2*j+1)then 1 else 0)*x.fS:=by
   simp only[iD,pk]
   cases S.testBit (2*j)<;>cases S.testBit (2*j+1)<;>simp[bP,aW]
  rw[e2]
  have e3:∀(b:Bool) (c:Int),1≤c∧c≤1000→0≤(if b=true then(1:Int)else 0)*c∧(if b=true then(1:Int)else 0)*c≤1000:=λb c h=>by cases b<;>simp<;>omega
  have h1:=e3 (S.testBit (2*j)) _ hc.1
  have h2:=e3 (S.testBit (2*j+1)) _ hc.2
  generalize (if S.testBit (2*j)then(1:Int)else 0)*x.fc=y1 at h1 ⊢
  generalize (if S.testBit (2*j+1)then(1:Int)else 0)*x.fS=y2 at h2 ⊢
  rw[cn (n:=y1) (by omega) (by omega),cn (n:=y2) (by omega) (by omega),cn (n:=n+y1) (by omega) (by omega),cn (by omega) (by omega)]
  rw[uQ hS hB r (j+1) _ (λy hy=>hb y (by simp[hy])) (by omega) (by omega),show 2*(j+1)=2*j+2 by omega]
  congr 1;omega
theorem tc{β:Type}{B:Int→bh→(List Int→Option β)→List Int→Option β}{K:List Int→Option β}{S:Nat}
  (hB:∀(j:Nat) e Z (v:List Int),j<20→v.length≤90000→B (j:Int) e Z v=Z (rnd (pk S (2*j) (iD e)) v)) :
  ∀(l:List bh) (j:Nat) (v:List Int),j+l.length≤20→v.length+2*l.length≤90000→cc l j B K v=K (rnd (pk S (2*j) (l.flatMap iD)) v)
 |[],j,v,_,_=>by simp[cc,pk,rnd]
 |x::r,j,v,hl,hv=>by
  simp only[List.length_cons]at hl hv
  have h1:=qz (pk S (2*j) (iD x)) v
  have h2:=s8 S (2*j) (iD x)
  have e1:(iD x).length=2:=rfl
  rw[cc,hB _ _ _ _ (by omega) (by omega),List.flatMap_cons,s7,e1,tc hB r (j+1) _ (by omega) (by omega)]
  show K _=K _
  rw[show 2*(j+1)=2*j+2 by omega]
  unfold rnd
  rw[List.foldl_append]
theorem rz{α β:Type}{B:Int→α→(List Int→Option β)→List Int→Option β}{K:List Int→Option β}{H:List af}(hH:H.length≤20)
  (hB:∀j e Z (v:List Int),v.length≤80000→B j e Z v=Z (rnd H v)):∀(l:List α) (j:Nat) (v:List Int),v.length+20*l.length≤80000→cc l j B K v=K (rounds H l.length v)
 |[],_,_,_=>rfl
 |x::r,j,v,h=>by
  simp only[List.length_cons]at h
  have:=qz H v
  rw[cc,hB _ _ _ _ (by omega),rz hH hB r (j+1) _ (by omega)]
  rfl
theorem uR{β:Type}{B:Int→Int→(Bool→Option β)→Bool→Option β}{K:Bool→Option β}{v:List Int}(hB:∀j e Z s,B j e Z s=Z (s&&decide (e∈v))):∀(l:List Int) (j:Nat) (s:Bool),cc l j B K s=K (s&&l.all λx=>decide (x∈v))
 |[],_,s=>by simp[cc]
 |x::r,j,s=>by rw[cc,hB,uR hB r (j+1)];simp[Bool.and_assoc]
def LsJ(ah:List af)(Cv:List af→Prop)(least:Int)(S:Nat):Prop:=
 (least = -1∧∀s,s<S→¬Cv (pk s 0 ah))∨(0≤least∧(∃s,Cv (pk s 0 ah)∧bP aW (pk s 0 ah)=least)∧∀s,s<S→Cv (pk s 0 ah)→least≤bP aW (pk s 0 ah))
variable {Cv:List af→Prop}{S:Nat}{ah:List af}{least:Int}
theorem LsJ.keep(h:LsJ ah Cv least S)(hn:Cv (pk S 0 ah)→0≤least∧least≤bP aW (pk S 0 ah)):LsJ ah Cv least (S+1):=by
 rcases h with⟨h1,h2⟩|⟨h1,h2,h3⟩
 ·refine .inl ⟨h1,λs hs hc=>?_⟩
  rcases Nat.lt_or_eq_of_le (Nat.le_of_lt_succ hs)with h|rfl
  ·exact h2 s h hc
  ·have:=(hn hc).1;omega
 ·refine .inr ⟨h1,h2,λs hs hc=>?_⟩
  rcases Nat.lt_or_eq_of_le (Nat.le_of_lt_succ hs)with h|rfl
  ·exact h3 s h hc
  ·exact(hn hc).2
theorem LsJ.new(h:LsJ ah Cv least S)(h0:0≤bP aW (pk S 0 ah))(hc:Cv (pk S 0 ah))(hl:¬(0≤least∧least≤bP aW (pk S 0 ah))):LsJ ah Cv (bP aW (pk S 0 ah)) (S+1):=by
 refine .inr ⟨h0,⟨S,hc,rfl⟩,λs hs hc2=>?_⟩
 rcases Nat.lt_or_eq_of_le (Nat.le_of_lt_succ hs)with hlt|rfl
 ·rcases h with⟨h1,h2⟩|⟨h1,h2,h3⟩
  ·exact absurd hc2 (h2 s hlt)
  ·have:=h3 s hlt hc2;omega
 ·omega
theorem qd(t:List Int):fV t=some true:=by
 unfold fV
 refine Ok.eq (Ok.bnd (ahE t) λs hs=>Ok.bnd (wj hs (by omega)) λp hp=>?_)
 obtain⟨g,t1⟩:=p
 obtain⟨hg,ht⟩:=hp
 have hv:Vt g:=hg.v
 have hnr:=hv.nr
 have hn1:1≤g.ay.length:=hg.n.1
 dsimp only
 refine Ok.bnd (sY (l:=g.Links) ⟨by omega,by split<;>omega,by split<;>omega⟩) λls hls=>?_
 have hlen:ls.length≤5:=by have:=hls.2;split at this<;>omega
 have hl2:ls=g.Links.take (if(5:Int)<(g.Links.length:Int)then(5:Int)else(g.Links.length:Int)).toNat:=by rw[hls.1];simp
 clear hls
 refine rm (g:=g) ht (by omega) λq r hq hr hid=>?_
 generalize hg2:az.mk g.ay ls=g2
 have hv2:Vt g2:=by rw[←hg2,hl2];exact hv.cutL _
 have agG:ids g2=ids g:=by rw[←hg2];rfl
 have hgl:g2.Links=ls:=by rw[←hg2]
 have hgr:g2.ay=g.ay:=by rw[←hg2]
 refine Ok.bnd (aar (g:=g2) hq (by rw[hgr];omega) (by omega)) λl hl=>?_
 obtain⟨l,t2⟩:=l
 obtain⟨⟨l1,l2,l3⟩,_⟩:=hl
 simp only at l1 l2 l3 ⊢
 rw[←agG]at hid
 refine⟨true,rq hv2 hid l1 l2 (by omega) λx hx=>?_,rfl⟩
 generalize hA:gO g2=ah
 have hx:ChT g2 r.ID l x:=hx
 unfold ChT at hx
 rw[hA]at hx
 have hAo:jc ah:=by rw[←hA];exact xm hv2
 have hAl:ah=ls.flatMap iD:=by rw[←hA,gO,hgl]
 have hAn:ah.length=2*ls.length:=by rw[←hA,sx,hgl]
 have hpow:(2:Nat) ^ (2*ls.length)≤1024:=Nat.pow_le_pow_right (n:=2) (by omega) (show 2*ls.length≤10 by omega)
 generalize hCv:(λH:List af=>∀t,t∈l→Con aW H r.ID t)=Cv
 have hw1:IntKind.wrap .u64 (w64 ((2:Int)*(ls.length:Int)))=((2*ls.length:Nat):Int):=by rw[cn (by omega) (by omega),wrap_u64 (by omega) (by omega)];omega
 have hw2:IntKind.wrap .i64 ((1:Int)*2 ^ min (IntKind.wrap .u64 (w64 ((2:Int)*(ls.length:Int)))).toNat 64)=((2 ^ (2*ls.length):Nat):Int):=by
  rw[hw1,Int.toNat_natCast,Nat.min_eq_left (by omega),Int.one_mul]
  have e:((2:Int) ^ (2*ls.length))=((2 ^ (2*ls.length):Nat):Int):=by simp
  rw[e]
  generalize 2 ^ (2*ls.length)=z at hpow ⊢
  exact cn (by omega) (by omega)
 have hall:∀{S:Nat},Cv (pk S 0 ah)↔(l.all λx=>decide (x∈rounds (pk S 0 ah) g.ay.length [r.ID]))=true:=λ{S}=>by
  rw[←hCv,List.all_eq_true]
  have hin:∀{x:Int},x∈rounds (pk S 0 ah) g.ay.length [r.ID]↔Con aW (pk S 0 ah) r.ID x:=λ{x}=>by
   refine ya (V:=ids g2) hid (λa ha=>?_) (by rw[agG];simp[ids])
   have ha:=nY ha
   rw[←hA]at ha
   obtain⟨k,hk,h⟩:=sv.1 ha
   have:=hv2.ends k hk
   rcases h with rfl|rfl
   ·exact nX.2 this.2
   ·exact nX.2 this.1
  simp only[decide_eq_true_eq,hin]
 refine Ok.eq (Ok.whl (λsg:Int×Int=>∃S:Nat,sg.2=(S:Int)∧S≤2 ^ (2*ls.length)∧LsJ ah Cv sg.1 S) (λsg=>(((2 ^ (2*ls.length):Nat):Int)-sg.2).toNat) ⟨0,rfl,Nat.zero_le _,.inl ⟨rfl,λs hs=>by omega⟩⟩ (by simp only;omega) ?_)
 rintro⟨least,v⟩ Z ⟨S,hS1,hS2,hJ⟩ hZ
 simp only at hS1 hJ ⊢
 subst hS1
 rw[hw2,hw1]
 refine Ok.chk (by simp;omega) ?_
 by_cases hlt:S<2 ^ (2*ls.length)
 ·rw[decide_eq_true (by omega),cond_true]
  unfold jn
  have hnext:∀wC,LsJ ah Cv wC (S+1)→Ok (Z (wC,w64 ((S:Int)+1))) (λx=>x=true):=λwC h=>by
   rw[cn (by omega) (by omega)]
   exact hZ _ ⟨S+1,by simp,hlt,h⟩ (by simp only;omega)
  have hs0:0+bP aW (pk S (2*0) (ls.flatMap iD))=bP aW (pk S 0 ah):=by rw[Int.zero_add,←hAl]
  have hpos:0≤bP aW (pk S 0 ah):=lg λa ha=>by have:=(hAo.cost a (nY ha)).1;show 0≤a.bI;omega
  refine Eq.mpr (congrArg (λo=>Ok o _) (uQ (S:=S) (by omega) (λj e Z n=>rfl) ls 0 0 (λy hy=>by rw[←hgl]at hy;exact hv2.okl y hy) (by omega) (by omega))) ?_
  rw[hs0]
  refine Ok.cs (λhc=>?_) λhc=>?_
  ·simp only[Bool.and_eq_true,decide_eq_true_eq]at hc
   exact hnext least (hJ.keep λ_=>hc)
  ·simp only[Bool.and_eq_false_iff,decide_eq_false_iff_not]at hc
   have agH:∀{B:Int→aK→(List Int→Option Bool)→List Int→Option Bool} {K:List Int→Option Bool},(∀j e Z (v:List Int),v.length≤80000→B j e Z v=Z (rnd (pk S 0 ah) v))→Ok (K (rounds (pk S 0 ah) g.ay.length [r.ID])) (λx=>x=true)→Ok (cc g.ay 0 B K [r.ID]) (λx=>x=true):=λ{B K} hB hK=>by
    have:=s8 S 0 ah
    rw[rz (H:=pk S 0 ah) (by omega) hB g.ay 0 [r.ID] (by simp;omega)]
    exact hK
   refine agH (λj e Z v hvl=>?_) ?_
   ·have hl3:pk S (2*0) (ls.flatMap iD)=pk S 0 ah:=by rw[←hAl]
    refine(tc (S:=S) (λj e Z v hj hvl=>?_) ls 0 v (by omega) (by omega)).trans (by rw[hl3])
    obtain⟨a1,a2⟩:=ta S (2*j) (by omega) (e:=(2:Int)*(j:Int)) (by omega) (by omega)
    have hw:w64 ((2:Int)*(j:Int))=(2:Int)*(j:Int):=cn (by omega) (by omega)
    obtain⟨b1,b2⟩:=ta S (2*j+1) (by omega) (e:=w64 ((2:Int)*(j:Int))+1) (by rw[hw];omega) (by omega)
    have hput:∀(v:List Int) (a:af) (b:Bool) (W:List Int→Option Bool),v.length≤95000→(bif decide ((if b then(1:Int)else 0)=1)then bnd (ec v a.Hop.bf) λ(vx:Bool)=>(bif vx then bnd (dD v a.Hop.To) λ(vy:List Int)=>W vy else W v)else(bif false then bnd (dD v a.Hop.To) λ(vy:List Int)=>W vy else W v))=W (if b then jB v a else v):=λv a b W h=>by
     cases b with
     |false=>rfl
     |true=>
      rw[if_pos rfl,if_pos rfl,decide_eq_true rfl,cond_true,agw,cO]
      unfold jB
      by_cases hf:a.Hop.bf∈v
      ·rw[if_pos hf,decide_eq_true hf,cond_true,aaQ _ _ (by omega),cO]
      ·rw[if_neg hf,decide_eq_false hf];rfl
    have e1:∀v,(if S.testBit (2*j)=true then jB v (af.mk (aV.mk e.A e.B) e.fc)else v)=rnd (pk S (2*j) [af.mk (aV.mk e.A e.B) e.fc]) v:=λv=>by
     simp only[pk];cases S.testBit (2*j)<;>rfl
    have e2:∀v,(if S.testBit (2*j+1)=true then jB v (af.mk (aV.mk e.B e.A) e.fS)else v)=rnd (pk S (2*j+1) [af.mk (aV.mk e.B e.A) e.fS]) v:=λv=>by
     simp only[pk];cases S.testBit (2*j+1)<;>rfl
    have e3:pk S (2*j) (iD e)=pk S (2*j) [af.mk (aV.mk e.A e.B) e.fc]++pk S (2*j+1) [af.mk (aV.mk e.B e.A) e.fS]:=s7 S (2*j) [_] [_]
    have g1:=qz (pk S (2*j) [af.mk (aV.mk e.A e.B) e.fc]) v
    have g2':=s8 S (2*j) [af.mk (aV.mk e.A e.B) e.fc]
    simp only[List.length_cons,List.length_nil]at g2'
    simp only[jn]
    rw[a1,b1,a2,b2]
    refine Eq.trans (hput v (af.mk (aV.mk e.A e.B) e.fc) _ _ (by omega)) ?_
    refine Eq.trans (hput _ (af.mk (aV.mk e.B e.A) e.fS) _ _ (by rw[e1];omega)) ?_
    rw[e1,e2,e3]
    unfold rnd
    rw[List.foldl_append]
   ·refine Eq.mpr (congrArg (λo=>Ok o _) (uR (v:=rounds (pk S 0 ah) g.ay.length [r.ID]) (λj e Z s=>?_) l 0 true)) ?_
    ·cases s with
     |false=>rfl
     |true=>simp only[cond_true];rw[agw,cO,Bool.true_and]
    ·rw[Bool.true_and]
     refine Ok.cs (λh=>?_) λh=>?_
     ·exact hnext _ (hJ.new hpos (hall.2 h) (by omega))
     ·exact hnext _ (hJ.keep λhc2=>by rw[hall.1 hc2]at h;cases h)
 ·rw[decide_eq_false (by omega),cond_false]
  have hS:S=2 ^ (2*ls.length):=by omega
  rw[ac4]
  have dK:∀{Hs:List af},Opt aW ah (λt=>t∈l) r.ID Hs→∃s,s<S∧Cv (pk s 0 ah)∧bP aW (pk s 0 ah)=bP aW Hs:=λ{Hs} hO=>by
   obtain⟨s,h1,h2⟩:=agF (λa=>decide (a∈Hs)) ah
   have hm:∀a,a∈ah.filter (λa=>decide (a∈Hs))↔a∈Hs:=λa=>by
    rw[List.mem_filter,decide_eq_true_eq]
    exact⟨λh=>h.2,λh=>⟨hO.sub a h,h⟩⟩
   have hnd:(ah.filter λa=>decide (a∈Hs)).Nodup:=by
    have:ah.Nodup:=by rw[←hA];exact acZ hv2
    exact this.sublist List.filter_sublist
   have hp:(ah.filter λa=>decide (a∈Hs)).Perm Hs:=(List.perm_ext_iff_of_nodup hnd hO.nodup).2 hm
   refine⟨s,by rw[hS,←hAn];exact h1,?_,?_⟩
   ·rw[h2,←hCv]
    exact λt ht=>(hO.cov t ht).mono λa ha=>(hm a).2 ha
   ·rw[h2]
    exact zf hp
  rcases hJ with⟨h1,h2⟩|⟨h1,⟨s0,h2,h3⟩,h4⟩
  ·rw[decide_eq_true (show least<0 by omega),cond_true]
   rcases hx with⟨_,_,⟨Hs,hO,_,_⟩,_⟩|⟨hx,_⟩
   ·obtain⟨s,q1,q2,_⟩:=dK hO
    exact absurd q2 (h2 s q1)
   ·rw[hx];exact⟨true,rfl,rfl⟩
  ·rw[decide_eq_false (show ¬least<0 by omega),cond_false]
   rw[←hCv]at h2
   rcases hx with⟨x1,_,⟨Hs,hO,x2,_⟩,_⟩|⟨_,hx⟩
   ·obtain⟨s,q1,q2,q3⟩:=dK hO
    have q4:=h4 s q1 q2
    have q5:=hO.min _ (λa ha=>nY ha) h2
    rw[decide_eq_true x1,decide_eq_true (show x.2.1=least by omega)]
    exact⟨true,rfl,rfl⟩
   ·exact absurd (λt ht=>(h2 t ht).mono λa ha=>nY ha) hx
end Go.Proofs.Ytmnbolcmepihlaa
