/- Cells aH are held still for good; the tail of a slice aH is cleared; a slice of aay own cut behind. No condition but aX aH stand in each. -/
import Derived.Test.YtmnbolcmepihlaaB7
import Derived.Test.YtmnbolcmepihlaaA18
namespace Go.Proofs.Ytmnbolcmepihlaa
set_option linter.all false
open Go
section
theorem aR.row{I I':Imm}(hle:aF I I'){b:Nat}:∀(cs:List AV) (vs:List Value) (o:Nat),aR I cs vs→(∀j,j<vs.length→I' b ((o+j:Nat):Option Nat)=vs[j]?)→dP I' b cs o
 |[],_,_,_,_=>by simp[dP]
 |x::r,vs,o,h,hj=>by
  simp only[aR]at h
  obtain⟨u,us,rfl,h1,h2⟩:=h
  simp only[dP]
  refine⟨⟨u,?_,bO hle _ _ h1⟩,aR.row hle r us (o+1) h2 λj hj'=>?_⟩
  ·have:=hj 0 (by simp)
   simpa using this
  ·have:=hj (j+1) (by simp;omega)
   rw[show o+1+j=o+(j+1)by omega]
   simpa using this
theorem aN.lp{G:Gl}{env:Env}{σ:Sto}(t C:Nat){T:Nat}{cs:List AV}(ht:env.get t=.ptr C 0)(hC:σ.get C=some (.cells T cs))(hc:cZ cs=true):aN G env σ ((t,.bV cs)::env) (σ.minus [C]):=by
 intro cx I β a w h h'
 have ho:=h.aT C _ hC
 simp only[aa]at ho
 have hp:=h' t
 rw[ht]at hp
 simp only[Rep]at hp
 obtain⟨b,hb,hpv⟩:=hp
 rcases ho with q|⟨b',arr,q1,q2,q3,q4,q5⟩
 ·rw[q]at hb;simp[blk]at hb
 ·have hbb:b'=b:=by rw[q1]at hb;simpa [blk]using hb
  subst hbb
  let I':Imm:=I.on λb1 o=>if b1=b' then arr[o]? else I b1 o
  have hle:aF I I':=λb1 o v hv=>by
   cases o with
   |none=>exact hv
   |some o=>
   show(if b1=b' then arr[o]? else I b1 o)=some v
   split
   ·rename_i hh
    subst hh
    rw[q4]at hv;cases hv
   ·exact hv
  have ez:∀b1 o,b1≠b'→I' b1 o=I b1 o:=λb1 o hne=>by
   cases o with
   |none=>rfl
   |some o=>
   show(if b1=b' then arr[o]? else I b1 o)=_
   rw[if_neg hne]
  have hmin:∀d o,(σ.minus [C]).get d=some o→d≠C∧σ.get d=some o:=λd o hd=>by
   rw[Sto.cC]at hd
   split at hd
   ·cases hd
   ·rename_i hm;exact⟨by simpa using hm,hd⟩
  have aaN:∀d,((σ.minus [C]).get d).isSome→(σ.get d).isSome:=λd hd=>by
   obtain⟨o,ho⟩:=Option.isSome_iff_exists.1 hd
   rw[(hmin d o ho).2];rfl
  have hrow:dP I' b' cs 0:=aR.row hle cs arr.toList 0 (oB hc q3) λj hj=>by
   show(if b'=b' then arr[0+j]? else I b' (some (0+j)))=_
   rw[if_pos rfl];simp
  refine⟨I',β,{good:=λb1 o v hv=>?_,cA:=h.cA,dM:=λb1 o v hv=>hle _ _ _ (h.dM _ _ _ hv),eo:=λb1 hb1 hn o=>?_,frame:=h.frame,size:=h.size,tape:=h.tape,os:=h.os,output:=h.output,drawn:=h.drawn,aT:=λd o hd=>?_,bp:=λd d' hd hd'=>h.bp d d' (aaN d hd) (aaN d' hd'),keep:=h.keep},λt'=>?_⟩
  ·change (if b1=b' then arr[o]? else I b1 o)=some v at hv
   split at hv
   ·rename_i hh
    subst hh
    simp only[World.cell?,q2]
    simpa using hv
   ·exact h.good b1 o v hv
  ·have hne:b1≠b':=λe=>by
    subst e
    rcases q5 with q|q
    ·omega
    ·exact hn q
   rw[ez b1 o hne]
   exact h.eo b1 hb1 hn o
  ·obtain⟨hd1,hd2⟩:=hmin d o hd
   refine(h.aT d o hd2).imm hle ez λb1 hb1 e'=>?_
   subst e'
   exact h.bp d C (by rw[hd2];rfl) (by rw[hC];rfl) hd1 b1 hb1 (cq hb)
  ·rw[Env.aC]
   split
   ·rename_i e;subst e
    simp only[Rep,aj]
    exact⟨b',0,hpv,hrow⟩
   ·exact(h'.mono hle (HLe.refl β)) t'
end
section
variable {G:Gl}{o:Oper}{ev:Operand→AV}{σ:Sto}
end
section
variable {P:Program}
theorem Yields.cfn{G:Gl}{o:Oper}{ev:Operand→AV}{σ:Sto}{mat R:List Nat}{f:Nat}{l:List AV}(h:Yields G o ev σ mat R (.fn f l))(hc:cZ l=true):Yields G o ev σ mat R (.cfn f l):=λσ' cx I β w ρ hR hw hm hop=>by
 have:=h σ' cx I β w ρ hR hw hm hop
 generalize (execOp ρ o).run G.P w=r at this
 have key:∀v w',(∃I' β',Rep I' β' (.fn f l) v∧aJ G cx I' β' σ' w'∧aF I I'∧(∀d,d∉mat→β' d=β d))→∃I' β',Rep I' β' (.cfn f l) v∧aJ G cx I' β' σ' w'∧aF I I'∧(∀d,d∉mat→β' d=β d):=λv w' ⟨I',β',h1,h2⟩=>by
  simp only[Rep]at h1
  obtain⟨vs,rfl,h3⟩:=h1
  exact⟨I',β',by simp only[Rep,aj];exact⟨vs,rfl,oB hc h3⟩,h2⟩
 cases r with
 |halt x w'=>exact this.elim
 |ok n w'=>cases n with
  |value v=>exact key _ _ this
  |skip=>exact key _ _ this
  |enter f args=>exact Calls.mono this λe w'' ⟨v,h1,h2⟩=>⟨v,h1,key _ _ h2⟩
  |_=>exact this.elim
def cfE(op:Op)(env:Env):Option (Stp×Obs):=match op with
 |.makeFunc (.func f) first cap=>match first.toList with
  |[]=>(match env.iV cap.toList with
   |some l=>bif cZ l then some (.y [] (.cfn f l),([],[]))else none
   |_=>none)
  |_=>none
 |_=>none
theorem aeX{o:Oper}{N:Nat}{ids:List Nat}{env:Env}{σ:Sto}{s:Stp}{ob:Obs}(h:cfE o.op env=some (s,ob)):cv ⟨P,N,ids⟩ o env σ s:=by
 unfold cfE at h
 split at h
 ·rename_i f first cap ho
  split at h
  ·rename_i hf
   split at h
   ·rename_i l hl
    cases hc:cZ l with
    |false=>rw[hc]at h;cases h
    |true=>
     rw[hc]at h;cases h
     have e1:first=#[]:=by simpa using congrArg List.toArray hf
     subst e1
     exact Yields.cfn (Z.makeFunc ho hl) hc
   ·cases h
  ·cases h
 ·cases h
def hcf:Hint P:=.gs false ([],[]) (λ_ op env _=>cfE op env) λ_ _ _ _ _ _ _ h _=>aeX h
end
end Go.Proofs.Ytmnbolcmepihlaa
