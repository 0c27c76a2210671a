/- Steps on slices jH last element is an own map, and on entries. No condition but aX aH stand in each. -/
import Derived.Test.YtmnbolcmepihlaaC8
namespace Go.Proofs.Ytmnbolcmepihlaa
set_option linter.all false
open Go
section
variable {P:Program}
def xiF(T0:Nat)(op:Op)(env:Env)(σ:Sto):Option (Stp×Obs):=match op with
 |.indexAddr T x y=>(match env.evo x with
  |some (.own d)=>(match env.evo y with
   |some (.int k i)=>(match σ.get d with
    |some (.slm T1 xs t)=>bif Nat.beq T T0 then some (.y [d] (.ptr d i.toNat),([.int .i64 i],[(0,.slm 0 xs 0)]))else none
    |_=>none)
   |_=>none)
  |_=>none)
 |_=>none
theorem ae6{T0 E:Nat}{xs:List (List AV)}{i:Int}(hT:SlS P T0 E 1)(hi:0≤i∧i<(xs.length:Int)+1){o:Oper}{N:Nat}{ids:List Nat}{env:Env}{σ:Sto}{s:Stp}{ob:Obs}
  (h:xiF T0 o.op env σ=some (s,ob)) (he:ob=([.int .i64 i],[(0,.slm 0 xs 0)])):cv ⟨P,N,ids⟩ o env σ s:=by
 cases ho:o.op<;>rw[ho]at h
 case indexAddr T x y=>
  simp only[xiF]at h
  split at h
  ·rename_i d hx
   split at h
   ·rename_i k i' hy
    split at h
    ·rename_i T1 xs' t hd
     cases hc:Nat.beq T T0 with
     |false=>rw[hc]at h;cases h
     |true=>
      rw[hc]at h
      have:=Nat.eq_of_beq_eq_true hc
      subst this
      cases h
      simp only[Prod.mk.injEq,List.cons.injEq,AV.int.injEq,aS.slm.injEq,and_true,true_and]at he
      obtain⟨rfl,rfl⟩:=he
      exact Y.aeY ho (Env.aA hx) (Env.aA hy) hd hT hi
    ·cases h
   ·cases h
  ·cases h
 all_goals (simp only[xiF]at h;cases h)
def hxi{T0 E:Nat}{xs:List (List AV)}{i:Int}(hT:SlS P T0 E 1)(hi:0≤i∧i<(xs.length:Int)+1):Hint P:=
 .gs false ([.int .i64 i],[(0,.slm 0 xs 0)]) (λ_=>xiF T0) λ_ _ _ _ _ _ _ h he=>ae6 hT hi h he
def xlF(T0:Nat)(op:Op)(env:Env)(σ:Sto):Option (Stp×Obs):=match op with
 |.load T x=>(match env.evo x with
  |some (.ptr d p)=>(match σ.get d with
   |some (.slm T1 xs t)=>(match σ.get t with
    |some om=>bif Nat.beq T T0&&om.xV then some (.y [d,t] (.b9 t),([.ptr 0 p],[(0,.slm 0 xs 0)]))else none
    |_=>none)
   |_=>none)
  |_=>none)
 |_=>none
theorem ae7{T0 p:Nat}{xs:List (List AV)}(hT:TyS P T0 1 false)(hp:p=xs.length){o:Oper}{N:Nat}{ids:List Nat}{env:Env}{σ:Sto}{s:Stp}{ob:Obs}
  (h:xlF T0 o.op env σ=some (s,ob)) (he:ob=([.ptr 0 p],[(0,.slm 0 xs 0)])):cv ⟨P,N,ids⟩ o env σ s:=by
 cases ho:o.op<;>rw[ho]at h
 case load T x=>
  simp only[xlF]at h
  split at h
  ·rename_i d p' hx
   split at h
   ·rename_i T1 xs' t hd
    split at h
    ·rename_i om ht
     cases hc:(Nat.beq T T0&&om.xV)with
     |false=>rw[hc]at h;cases h
     |true=>
      rw[hc]at h
      simp only[Bool.and_eq_true]at hc
      have:=Nat.eq_of_beq_eq_true hc.1
      subst this
      cases h
      simp only[Prod.mk.injEq,List.cons.injEq,AV.ptr.injEq,aS.slm.injEq,and_true,true_and]at he
      obtain⟨rfl,rfl⟩:=he
      exact Y.aeZ ho (Env.aA hx) hd hp ht hc.2 hT
    ·cases h
   ·cases h
  ·cases h
 all_goals (simp only[xlF]at h;cases h)
def hxl{T0 p:Nat}{xs:List (List AV)}(hT:TyS P T0 1 false)(hp:p=xs.length):Hint P:=
 .gs false ([.ptr 0 p],[(0,.slm 0 xs 0)]) (λ_=>xlF T0) λ_ _ _ _ _ _ _ h he=>ae7 hT hp h he
def xoF(T0:Nat)(a:AV)(op:Op)(env:Env)(σ:Sto):Option (Stp×Obs):=match op with
 |.load T x=>(match env.evo x with
  |some (.ptr d p)=>(match σ.get d with
   |some (.slm T1 xs t)=>bif Nat.beq T T0 then some (.y [d] a,([.ptr 0 p],[(0,.slm 0 xs 0)]))else none
   |_=>none)
  |_=>none)
 |_=>none
theorem ae8{T0 p:Nat}{xs:List (List AV)}{a:AV}(hT:TyS P T0 1 false)(hp:xs[p]?=some [a]){o:Oper}{N:Nat}{ids:List Nat}{env:Env}{σ:Sto}{s:Stp}{ob:Obs}
  (h:xoF T0 a o.op env σ=some (s,ob)) (he:ob=([.ptr 0 p],[(0,.slm 0 xs 0)])):cv ⟨P,N,ids⟩ o env σ s:=by
 cases ho:o.op<;>rw[ho]at h
 case load T x=>
  simp only[xoF]at h
  split at h
  ·rename_i d p' hx
   split at h
   ·rename_i T1 xs' t hd
    cases hc:Nat.beq T T0 with
    |false=>rw[hc]at h;cases h
    |true=>
     rw[hc]at h
     have:=Nat.eq_of_beq_eq_true hc
     subst this
     cases h
     simp only[Prod.mk.injEq,List.cons.injEq,AV.ptr.injEq,aS.slm.injEq,and_true,true_and]at he
     obtain⟨rfl,rfl⟩:=he
     exact Y.ae0 ho (Env.aA hx) hd hp hT
   ·cases h
  ·cases h
 all_goals (simp only[xoF]at h;cases h)
def hxo{T0 p:Nat}{xs:List (List AV)}{a:AV}(hT:TyS P T0 1 false)(hp:xs[p]?=some [a]):Hint P:=
 .gs false ([.ptr 0 p],[(0,.slm 0 xs 0)]) (λ_=>xoF T0 a) λ_ _ _ _ _ _ _ h he=>ae8 hT hp h he
def xaF(T0 E0 d2:Nat)(ids:List Nat)(op:Op)(env:Env)(σ:Sto):Option (Stp×Obs):=match op with
 |.call c=>(match c.callee with
  |.builtin b=>(match b with
   |.append=>(match c.args.toList with
    |[s,x]=>(match c.argTypes.toList with
     |[T,T']=>(match env.evo s with
      |some (.own d)=>(match σ.get d with
       |some (.slice T1 1 xs 0 fz)=>(match env.evo x with
        |some (.hnd (.csl 1) dc)=>(match σ.get dc with
         |some (.cells Tc [.b9 t])=>bif Nat.beq T T0&&Nat.beq T' T0&&Nat.beq T1 E0&&!ids.contains d2&&(σ.minus [d]).clean [d2].contains&&!Nat.beq dc d&&!Nat.beq t d then
           some (.e [d,d2] [d2] (.own d2) ((d2,.slm T1 xs t)::σ.minus [d]),([],[(0,.slm 0 xs 0)]))else none
         |_=>none)
        |_=>none)
       |_=>none)
      |_=>none)
     |_=>none)
    |_=>none)
   |_=>none)
  |_=>none)
 |_=>none
theorem ae9{T0 E0 bytes d2:Nat}{xs:List (List AV)}(hA:fM P T0 E0 1 bytes)(hb:(xs.length+1)*bytes≤140737488355328)(h63:xs.length+1≤maxLen){o:Oper}{N:Nat}{ids:List Nat}{env:Env}{σ:Sto}{s:Stp}{ob:Obs}
  (h:xaF T0 E0 d2 ids o.op env σ=some (s,ob)) (he:ob=([],[(0,.slm 0 xs 0)])):cv ⟨P,N,ids⟩ o env σ s:=by
 cases ho:o.op<;>rw[ho]at h
 case call c=>
  obtain⟨cl,args,tys⟩:=c
  simp only[xaF]at h
  split at h
  ·rename_i b
   split at h
   ·split at h
    ·rename_i s1 x hargs
     have:args=#[s1,x]:=Array.toList_inj.1 (by simpa using hargs)
     subst this
     split at h
     ·rename_i T T' vG
      have:tys=#[T,T']:=Array.toList_inj.1 (by simpa using vG)
      subst this
      split at h
      ·rename_i d hs
       split at h
       ·rename_i T1 xs' fz hd
        split at h
        ·rename_i dc hx
         split at h
         ·rename_i Tc t hdc
          cases hc:(Nat.beq T T0&&Nat.beq T' T0&&Nat.beq T1 E0&&!ids.contains d2&&(σ.minus [d]).clean [d2].contains&&!Nat.beq dc d&&!Nat.beq t d)with
          |false=>rw[hc]at h;cases h
          |true=>
           rw[hc]at h
           simp only[Bool.and_eq_true,Bool.not_eq_true']at hc
           obtain⟨⟨⟨⟨⟨⟨c1,c2⟩,c3⟩,c4⟩,c5⟩,c6⟩,c7⟩:=hc
           have:=Nat.eq_of_beq_eq_true c1;subst this
           have:=Nat.eq_of_beq_eq_true c2;subst this
           have:=Nat.eq_of_beq_eq_true c3;subst this
           cases h
           simp only[Prod.mk.injEq,List.cons.injEq,aS.slm.injEq,and_true,true_and]at he
           subst he
           exact⟨D.acF ho (Env.aA hs) hd (Env.aA hx) hdc hA rfl hb h63 c4 c5 (Nat.ne_of_beq_eq_false c6) (Nat.ne_of_beq_eq_false c7),by simp only[List.all_cons,List.all_nil,c4];rfl⟩
         ·cases h
        ·cases h
       ·cases h
      ·cases h
     ·cases h
    ·cases h
   ·cases h
  ·cases h
 all_goals (simp only[xaF]at h;cases h)
def hxa{T0 E0 bytes:Nat}(d2:Nat){xs:List (List AV)}(hA:fM P T0 E0 1 bytes)(hb:(xs.length+1)*bytes≤140737488355328)(h63:xs.length+1≤maxLen):Hint P:=
 .gs true ([],[(0,.slm 0 xs 0)]) (xaF T0 E0 d2) λ_ _ _ _ _ _ _ h he=>ae9 hA hb h63 h he
def meF{α:Type}(T0 K0 E0:Nat)(k:IntKind)(n:Int)(z:Value)(l:List (Int×α))(enc:α→AV)(za:α)(es:Array MapEntry)(clock:Nat)(op:Op)(env:Env)(σ:Sto):Option (Stp×Obs):=match op with
 |.mapEntry T x y=>(match env.evo x with
  |some (.b9 d)=>(match env.evo y with
   |some (.int k' n')=>(match σ.get d with
    |some (.dn es' c K E aD)=>bif Nat.beq T T0&&Nat.beq K K0&&Nat.beq E E0 then some (.e [d] [] (.tup [.cB,.int .i64 (meB k n es clock:Int)]) (σ.set d (.dn (eT k n z es clock) (kW k n es clock) K E (bu k enc (bt l n ((aM l n).getD za))))),
      ([.mpf aD,.int k' n'],[(0,.dn es' c 0 0 [])]))else none
    |_=>none)
   |_=>none)
  |_=>none)
 |_=>none
theorem afa{α:Type}{T0 K0 E0:Nat}{k:IntKind}{n:Int}{z:Value}{l:List (Int×α)}{enc:α→AV}{za:α}{es:Array MapEntry}{clock:Nat}(hT:gX P T0 K0 E0 k)(hz:∀w,(zeroValue E0).run P w=.ok z w)(hzc:∀I,aj I (enc za) z){o:Oper}{N:Nat}{ids:List Nat}{env:Env}{σ:Sto}{s:Stp}{ob:Obs}
  (h:meF T0 K0 E0 k n z l enc za es clock o.op env σ=some (s,ob)) (he:ob=([.mpf (bu k enc l),.int k n],[(0,.dn es clock 0 0 [])])):cv ⟨P,N,ids⟩ o env σ s:=by
 cases ho:o.op<;>rw[ho]at h
 case mapEntry T x y=>
  simp only[meF]at h
  split at h
  ·rename_i d hx
   split at h
   ·rename_i k' n' hy
    split at h
    ·rename_i es' c K E aD hd
     cases hc:(Nat.beq T T0&&Nat.beq K K0&&Nat.beq E E0)with
     |false=>rw[hc]at h;cases h
     |true=>
      rw[hc]at h
      simp only[Bool.and_eq_true]at hc
      obtain⟨⟨c1,c2⟩,c3⟩:=hc
      have:=Nat.eq_of_beq_eq_true c1;subst this
      have:=Nat.eq_of_beq_eq_true c2;subst this
      have:=Nat.eq_of_beq_eq_true c3;subst this
      cases h
      simp only[Prod.mk.injEq,List.cons.injEq,AV.mpf.injEq,AV.int.injEq,aS.dn.injEq,and_true,true_and]at he
      obtain⟨⟨rfl,rfl,rfl⟩,rfl,rfl⟩:=he
      exact⟨D.yM l enc za ho (Env.aA hx) (Env.aA hy) hd hT hz hzc,rfl⟩
    ·cases h
   ·cases h
  ·cases h
 all_goals (simp only[meF]at h;cases h)
def hme{α:Type}{T0 K0 E0:Nat}{k:IntKind}{z:Value}(n:Int)(l:List (Int×α))(enc:α→AV)(za:α)(es:Array MapEntry)(clock:Nat)(hT:gX P T0 K0 E0 k)(hz:∀w,(zeroValue E0).run P w=.ok z w)(hzc:∀I,aj I (enc za) z):Hint P:=
 .gs true ([.mpf (bu k enc l),.int k n],[(0,.dn es clock 0 0 [])]) (λ_=>meF T0 K0 E0 k n z l enc za es clock) λ_ _ _ _ _ _ _ h he=>afa hT hz hzc h he
def esF{α:Type}(k:IntKind)(n:Int)(l:List (Int×α))(enc:α→AV)(a:α)(op:Op)(env:Env)(σ:Sto):Option (Stp×Obs):=match op with
 |.entryStore T x y v=>(match env.evo x with
  |some (.b9 d)=>(match env.evo y with
   |some (.int kk b)=>(match env.evo v with
    |some av=>(match σ.get d with
     |some (.dn es c K E aD)=>some (.e [d] [] .undef (σ.set d (.map K E (bu k enc (bt l n a)))),([.mpf aD,.int kk b,av],[(0,.dn es c 0 0 [])]))
     |_=>none)
    |_=>none)
   |_=>none)
  |_=>none)
 |_=>none
theorem afb{α:Type}{k:IntKind}{n:Int}{z:Value}{l:List (Int×α)}{enc:α→AV}{a a0:α}{es:Array MapEntry}{clock:Nat}(hg:aM l n=some a0)(hc:(enc a).closed=true){o:Oper}{N:Nat}{ids:List Nat}{env:Env}{σ:Sto}{s:Stp}{ob:Obs}
  (h:esF k n l enc a o.op env σ=some (s,ob)) (he:ob=([.mpf (bu k enc l),.int .i64 (meB k n es clock:Int),enc a],[(0,.dn (eT k n z es clock) (kW k n es clock) 0 0 [])])):cv ⟨P,N,ids⟩ o env σ s:=by
 cases ho:o.op<;>rw[ho]at h
 case entryStore T x y v=>
  simp only[esF]at h
  split at h
  ·rename_i d hx
   split at h
   ·rename_i kk b hy
    split at h
    ·rename_i av hv
     split at h
     ·rename_i es' c K E aD hd
      cases h
      simp only[Prod.mk.injEq,List.cons.injEq,AV.mpf.injEq,AV.int.injEq,aS.dn.injEq,and_true,true_and]at he
      obtain⟨⟨rfl,⟨rfl,rfl⟩,rfl⟩,rfl,rfl⟩:=he
      exact⟨D.wK l enc a ho (Env.aA hx) (Env.aA hy) (Env.aA hv) hc hd hg,rfl⟩
     ·cases h
    ·cases h
   ·cases h
  ·cases h
 all_goals (simp only[esF]at h;cases h)
def hes{α:Type}{k:IntKind}{a0:α}(n:Int)(z:Value)(l:List (Int×α))(enc:α→AV)(a:α)(es:Array MapEntry)(clock:Nat)(hg:aM l n=some a0)(hc:(enc a).closed=true):Hint P:=
 .gs true ([.mpf (bu k enc l),.int .i64 (meB k n es clock:Int),enc a],[(0,.dn (eT k n z es clock) (kW k n es clock) 0 0 [])]) (λ_=>esF k n l enc a) λ_ _ _ _ _ _ _ h he=>afb (z:=z) hg hc h he
def exF(di:Nat)(a:AV)(op:Op)(env:Env)(σ:Sto):Option (Stp×Obs):=match op with
 |.entry x=>(match env.evo x with
  |some (.ptr di' 0)=>(match σ.get di with
   |some (.dW es c aD seen)=>bif Nat.beq di' di then some (.y [di] a,([.mpf aD],[(0,.dW es c [] seen)]))else none
   |_=>none)
  |_=>none)
 |_=>none
theorem afc{α:Type}{di clock i:Nat}{k:IntKind}{es:Array MapEntry}{seen:Array Nat}{e:MapEntry}{n:Int}{v:α}{l:List (Int×α)}{enc:α→AV}(hE:es[i]?=some e)(hl:l[i]?=some (n,v)){o:Oper}{N:Nat}{ids:List Nat}{env:Env}{σ:Sto}{s:Stp}{ob:Obs}
  (h:exF di (.tup [.int k n,enc v]) o.op env σ=some (s,ob)) (he:ob=([.mpf (bu k enc l)],[(0,.dW es clock [] (seen.push e.born))])):cv ⟨P,N,ids⟩ o env σ s:=by
 cases ho:o.op<;>rw[ho]at h
 case entry x=>
  simp only[exF]at h
  split at h
  ·rename_i di' hx
   split at h
   ·rename_i es' c aD seen' hd
    cases hb:Nat.beq di' di with
    |false=>rw[hb]at h;cases h
    |true=>
     rw[hb]at h
     have:=Nat.eq_of_beq_eq_true hb
     subst this
     cases h
     simp only[Prod.mk.injEq,List.cons.injEq,AV.mpf.injEq,aS.dW.injEq,and_true,true_and]at he
     obtain⟨rfl,rfl,rfl,rfl⟩:=he
     exact Y.ae5 l enc ho (Env.aA hx) hd hE hl
   ·cases h
  ·cases h
 all_goals (simp only[exF]at h;cases h)
def hxe{α:Type}{es:Array MapEntry}{i:Nat}{e:MapEntry}{n:Int}{v:α}{l:List (Int×α)}(di clock:Nat)(k:IntKind)(seen:Array Nat)(enc:α→AV)(hE:es[i]?=some e)(hl:l[i]?=some (n,v)):Hint P:=
 .gs false ([.mpf (bu k enc l)],[(0,.dW es clock [] (seen.push e.born))]) (λ_=>exF di (.tup [.int k n,enc v])) λ_ _ _ _ _ _ _ h he=>afc hE hl h he
end
end Go.Proofs.Ytmnbolcmepihlaa
