/- Slices jH last element is an own map, the others frozen maps. No condition but aX aH stand in each. -/
import Derived.Test.YtmnbolcmepihlaaC5
import Derived.Test.YtmnbolcmepihlaaAC
namespace Go.Proofs.Ytmnbolcmepihlaa
set_option linter.all false
open Go
section
variable {G:Gl}{σ:Sto}{o:Oper}{ev:Operand→AV}
theorem yL{cx:Cx}{I:Imm}{β:Nat→Value}{w:World}(hw:aJ G cx I β σ w){d T t:Nat}{xs:List (List AV)}(hd:σ.get d=some (.slm T xs t))(hn:β d≠.nilFunc):
  ∃b cap arr,β d=.slice (some ⟨b,0,none⟩) (xs.length+1) cap∧xs.length+1≤cap∧cap≤maxLen∧w.heap[b]?=some (.cells arr T (0,0))∧arr.size=cap∧
    aR I xs.flatten (arr.toList.take xs.length)∧(∀e∈xs,e.length=1)∧arr[xs.length]?=some (β t)∧β t≠.nilFunc∧(∀o:Nat,I b o=none)∧Place cx b:=by
 have ho:=hw.aT d _ hd
 simp only[aa,hn,false_or]at ho
 exact ho
theorem Y.aeY{T E d T0 t:Nat}{xs:List (List AV)}{x y:Operand}{k:IntKind}{i:Int}(h:o.op=.indexAddr T x y)(hx:ev x=.own d)(hy:ev y=.int k i)(hd:σ.get d=some (.slm T0 xs t))(hT:SlS G.P T E 1)
  (hi:0≤i∧i<(xs.length:Int)+1):Yields G o ev σ [] [d] (.ptr d i.toNat):=
 .pure λσ' cx I β w ρ hR hw hop=>by
  have h1:=hop x (by simp[h,Op.operands]);rw[hx]at h1
  have h2:=hop y (by simp[h,Op.operands]);rw[hy]at h2;have h2:=cw h2
  simp only[Rep]at h1
  obtain⟨h1,hs⟩:=h1
  have hdn:β d≠.nilFunc:=λe=>by rw[h1,e]at hs;simp[ew]at hs
  obtain⟨b,cap,arr,q1,q2,q3,q4,_⟩:=yL hw (by rw[hR d (by simp)];exact hd) hdn
  refine⟨.pointer (some ⟨b,i.toNat,none⟩),?_,by simp only[Rep];exact⟨b,by rw[q1];rfl,rfl⟩⟩
  have e1:∀w,(underlying T).run G.P w=.ok (.slice E) w:=λw=>by simp[underlying,program,Sem.run,hT.und]
  rw[q1]at h1
  have hi':0≤i∧i<(xs.length:Int)+1:=hi
  have hi2:¬((xs.length:Int)+1≤i):=by omega
  simp[hi2,execOp,h,h1,h2,Instr.indexAt,asIntOf,e1,hi',hT.size,cS]
theorem vJ{cx:Cx}{I:Imm}{β:Nat→Value}{w:World}(hw:aJ G cx I β σ w){d T t p:Nat}{xs:List (List AV)}(hd:σ.get d=some (.slm T xs t)){v:Value}(h1:Rep I β (.ptr d p) v):
  ∃b arr,v=.pointer (some ⟨b,p,none⟩)∧w.heap[b]?=some (.cells arr T (0,0))∧aR I xs.flatten (arr.toList.take xs.length)∧(∀e∈xs,e.length=1)∧arr[xs.length]?=some (β t)∧β t≠.nilFunc∧xs.length+1≤arr.size:=by
 simp only[Rep]at h1
 obtain⟨b,h1,h2⟩:=h1
 have hdn:β d≠.nilFunc:=λe=>by rw[e]at h1;cases h1
 obtain⟨b',cap,arr,q1,q2,q3,q4,q5,q6,q7,q8,q9,q10,q11⟩:=yL hw hd hdn
 have hbb:b'=b:=by rw[q1]at h1;simpa [blk]using h1
 subst hbb
 exact⟨b',arr,h2,q4,q6,q7,q8,q9,by omega⟩
def aS.xV:aS→Bool
 |.map ..=>true
 |.dn ..=>true
 |_=>false
theorem Y.aeZ{T d p T0 t:Nat}{xs:List (List AV)}{x:Operand}{om:aS}(h:o.op=.load T x)(hx:ev x=.ptr d p)(hd:σ.get d=some (.slm T0 xs t))(hp:p=xs.length)(ht:σ.get t=some om)(hm:om.xV=true)(hT:TyS G.P T 1 false):
  Yields G o ev σ [] [d,t] (.b9 t):=
 .pure λσ' cx I β w ρ hR hw hop=>by
  have h1:=hop x (by simp[h,Op.operands]);rw[hx]at h1
  obtain⟨b,arr,h2,q4,q6,q7,q8,q9,q10⟩:=vJ hw (by rw[hR d (by simp)];exact hd) h1
  have hcell:∀j,j<1→∃v,[β t][j]?=some v∧w.cell? ⟨b,p+j,none⟩=some v:=λj hj=>by
   have:j=0:=by omega
   subst this
   exact⟨β t,rfl,by subst hp;simp[World.cell?,q4,q8]⟩
  have hl:=gT hT (vs:=[β t]) hcell (λ_=>by omega)
  refine⟨β t,by simp[execOp,h,h2,Instr.loadAt,Instr.sureAddr,hl],?_⟩
  simp only[Rep,true_and]
  have ho:=hw.aT t om (by rw[hR t (by simp)];exact ht)
  cases om<;>simp only[aS.xV,reduceCtorEq]at hm
  ·simp only[aa,q9,false_or]at ho
   obtain⟨r,_,_,e,_⟩:=ho
   rw[e];rfl
  ·simp only[aa,q9,false_or]at ho
   obtain⟨r,e,_⟩:=ho
   rw[e];rfl
theorem vK:∀{xs:List (List AV)} {p:Nat} {a:AV},(∀e∈xs,e.length=1)→xs[p]?=some [a]→xs.flatten[p]?=some a
 |[],_,_,_,h=>by simp at h
 |e::r,p,a,hl,h=>by
  obtain⟨c,rfl⟩:∃c,e=[c]:=List.length_eq_one_iff.1 (hl e (by simp))
  cases p with
  |zero=>simp at h;subst h;rfl
  |succ p=>simp only[List.flatten_cons,List.singleton_append,List.getElem?_cons_succ]at h ⊢;exact vK (λe he=>hl e (by simp[he])) h
theorem Y.ae0{T d p T0 t:Nat}{xs:List (List AV)}{x:Operand}{a:AV}(h:o.op=.load T x)(hx:ev x=.ptr d p)(hd:σ.get d=some (.slm T0 xs t))(hp:xs[p]?=some [a])(hT:TyS G.P T 1 false):
  Yields G o ev σ [] [d] a:=
 .pure λσ' cx I β w ρ hR hw hop=>by
  have h1:=hop x (by simp[h,Op.operands]);rw[hx]at h1
  obtain⟨b,arr,h2,q4,q6,q7,q8,q9,q10⟩:=vJ hw (by rw[hR d (by simp)];exact hd) h1
  obtain⟨v,g1,g2⟩:=ot (β:=β) (aR.rep β _ _ q6) (vK q7 hp)
  have hpl:p<xs.length:=(List.getElem?_eq_some_iff.1 hp).1
  have g3:arr[p]?=some v:=by
   rw[List.getElem?_take,if_pos hpl]at g1
   simpa using g1
  have hcell:∀j,j<1→∃v',[v][j]?=some v'∧w.cell? ⟨b,p+j,none⟩=some v':=λj hj=>by
   have:j=0:=by omega
   subst this
   exact⟨v,rfl,by simp[World.cell?,q4,g3]⟩
  have hl:=gT hT (vs:=[v]) hcell (λ_=>by omega)
  exact⟨v,by simp[execOp,h,h2,Instr.loadAt,Instr.sureAddr,hl],g2⟩
theorem D.acF{s x:Operand}{T E bytes d d2 dc t T' Tc:Nat}{fz:Bool}{xs:List (List AV)}(h:o.op=.call ⟨.builtin .append,#[s,x],#[T,T]⟩)(hs:ev s=.own d)(hd:σ.get d=some (.slice T' 1 xs 0 fz))(hx:ev x=.hnd (.csl 1) dc)(hdc:σ.get dc=some (.cells Tc [.b9 t]))(hT:fM G.P T E 1 bytes)(hE:T'=E)
  (hb:(xs.length+1)*bytes≤140737488355328) (h63:xs.length+1≤maxLen) (hi:G.ids.contains d2=false)
  (hc:(σ.minus [d]).clean [d2].contains=true) (hdd:dc≠d) (htd:t≠d) :
  dV G o ev σ [d,d2] [d2] (λr σ'=>r=.own d2∧σ'=(d2,.slm T' xs t)::σ.minus [d]):=by
 subst hE
 intro cx I β w ρ hw hop
 have hs1:=hop s (by simp[h,Op.operands,Call.operands])
 rw[hs]at hs1
 simp only[Rep]at hs1
 obtain⟨hs1,hs2⟩:=hs1
 have hx1:=hop x (by simp[h,Op.operands,Call.operands])
 rw[hx]at hx1
 simp only[Rep]at hx1
 obtain⟨bc,hx0,hx1⟩:=hx1
 have hx1:ρ x=.slice (some ⟨bc,0,none⟩) 1 1:=hx1
 obtain⟨i,z,hi1,hz1,hz2,hz3,hz4⟩:=hT.info
 have hdc1:(σ.minus [d]).get dc=some (.cells Tc [.b9 t]):=by rw[Sto.cC,if_neg (by simpa using hdd)];exact hdc
 have ae1:t≠d2:=λe=>by
  have:=(Sto.bB hc dc _ hdc1).2
  simp[eD,gp,AV.refs,e]at this
 have hcc:w.cell? ⟨bc,0,none⟩=some (β t)∧gQ (β t)=true:=by
  have hcn:β dc≠.nilFunc:=λe=>by rw[e]at hx0;cases hx0
  have ho:=hw.aT dc _ hdc
  simp only[aa,hcn,false_or]at ho
  obtain⟨b,arr,q1,q2,q3,_⟩:=ho
  have:b=bc:=by rw[q1]at hx0;simpa [blk]using hx0
  subst this
  simp only[aI,Rep]at q3
  obtain⟨u,us,e1,⟨e2,e3⟩,e4⟩:=q3
  subst e4
  have:arr[0]?=some u:=by
   have:arr.toList[0]?=some u:=by rw[e1];rfl
   simpa using this
  rw[e2]at this e3
  exact⟨by simp[World.cell?,q2,this],e3⟩
 have htn:β t≠.nilFunc:=λe=>by rw[e]at hcc;simp[gQ]at hcc
 have hone:∀v∈[β t],v.oneCell'=true:=λv hv=>by
  rw[List.mem_singleton.1 hv]
  have:=hcc.2
  cases hbt:β t<;>rw[hbt]at this<;>simp[gQ]at this<;>rfl
 have hsm:xs.length+1≤9223372036854775807:=by simp only[maxLen]at h63;omega
 have hw1:aJ G cx I β (σ.minus [d]) w:=hw.sub λx ob hx=>by rw[Sto.cC]at hx;split at hx<;>first|cases hx|exact hx
 have hw2:=hw1.kN (mat:=[d2]) (σ2:=(d2,.slm T' xs t)::σ.minus [d]) (env:=[]) ⟨λx hx=>by rw[Sto.aC,if_neg (λe=>hx (by simp[e]))],λx hx=>by simp at hx;subst hx;simpa using hi,rfl,hc,λx hx dm n h=>by simp at hx;subst hx;rw[Sto.aC,if_pos rfl]at h;cases h⟩
 have dK:∀x,x≠d2→cK β [d2] x=β x:=λx hx=>by simp[cK,hx]
 have fin:∀(v':Value) (w':World) (b:Nat),(execOp ρ o).run G.P w=.ok (.value v') w'→ew v'=true→Kept w w' b→Place cx b→(∀x,((σ.minus [d]).get x).isSome→b∉br (β x))→
   (∀(o:Nat) v,I b o=some v→w'.cell? ⟨b,o,none⟩=some v)→I b none=none→(blk v'=some b∨br v'=[])→aa cx I (dw β d2 v') w' d2 (.slm T' xs t)→
   gh G.P (λv w'=>∃(av:AV) (σ':Sto) (I':Imm) (β':Nat→Value),(av=.own d2∧σ'=(d2,aS.slm T' xs t)::σ.minus [d])∧Rep I' β' av v∧aJ G cx I' β' σ' w'∧aF I I'∧(∀x,x∉[d2]→β' x=β x)∧(∀x,x∉[d,d2]→σ'.get x=σ.get x)) ((execOp ρ o).run G.P w):=by
  intro v' w' b hrun hsl hk hp hfree ou hnm hbd hob
  rw[hrun]
  refine⟨.own d2,_,I,dw β d2 v',⟨rfl,rfl⟩,by simp only[Rep,bn,hsl,and_self],?_,aF.refl I,λx hx=>bD β v' (by simpa using hx),λx hx=>?_⟩
  ·refine hw2.turn (d:=d2) hk hp (λ_ _=>rfl) (λx hx hsm e=>?_) (aF.refl I) (λ_ _ _=>rfl) ou hnm (λx hx=>by rw[bD β v' hx,dK x hx]) (.inl (by simpa using hi)) (λx=>?_) (by rw[bn];exact hbd) (λob iu=>?_)
   ·rw[Sto.aC,if_neg (Ne.symm hx)]at hsm
    rw[dK x hx]at e
    exact hfree x hsm e
   ·by_cases hx:x=d2
    ·left;simp[cK,hx]
    ·right;rw[bD β v' hx,dK x hx]
   ·rw[Sto.aC,if_pos rfl]at iu
    injection iu with iu
    subst iu
    exact hob
  ·have hx:x≠d∧x≠d2:=by simpa using hx
   rw[Sto.aC,if_neg (Ne.symm hx.2),Sto.cC,if_neg (by simpa using hx.1)]
 have other:∀b,blk (β d)=some b→∀x,((σ.minus [d]).get x).isSome→b∉br (β x):=λb hbd x hx e=>by
  rw[Sto.cC]at hx
  split at hx
  ·cases hx
  ·rename_i hxd
   exact hw.bp x d hx (by rw[hd];rfl) (by simpa using hxd) b e (cq hbd)
 have fresh:∀x,((σ.minus [d]).get x).isSome→w.heap.size∉br (β x):=λx hx e=>by
  obtain⟨ob,hx⟩:=Option.isSome_iff_exists.1 hx
  exact absurd (hw1.iE hx e) (by omega)
 have fnm:I w.heap.size none=none:=hw.bH (Nat.le_refl _) none
 have ni:∀(w':World) (o:Nat) v,I w.heap.size o=some v→w'.cell? ⟨w.heap.size,o,none⟩=some v:=λw' o v hv=>by rw[hw.bH (Nat.le_refl _)]at hv;cases hv
 have iF:∀old,old<xs.length+1→xs.length+1≤grownCap w (xs.length+1) old T'∧grownCap w (xs.length+1) old T'≤maxLen:=λold _=>⟨grownCap_ge _ _ _ _,grownCap_le_maxLen _ _ _ _ h63⟩
 have hcells:∀j u,[β t][j]?=some u→w.cell? ((⟨bc,0,none⟩:Addr).add j)=some u:=λj u hu=>by
  cases j with
  |zero=>simp at hu;subst hu;rw[cS];exact hcc.1
  |succ j=>simp at hu
 have jC:∀(olds:List Value) (cap:Nat),aR I xs.flatten olds→olds.length=xs.length→(∀e∈xs,e.length=1)→xs.length+1≤cap→cap≤maxLen→
   aa cx I (dw β d2 (.slice (some ⟨w.heap.size,0,none⟩) (xs.length+1) cap)) (w.drew.alloc (.cells (olds.toArray++[β t].toArray++Builtin.zeroCells z.cells (cap-(xs.length+1))) T')) d2 (.slm T' xs t):=by
  intro olds cap ho1 ho2 ho3 hc1 hc2
  simp only[aa,bn,bD β _ ae1]
  refine .inr ⟨w.heap.size,cap,_,rfl,hc1,hc2,heap_alloc_new w.drew _,?_,?_,ho3,?_,htn,λo=>hw.bH (Nat.le_refl _) o,.inl hw.size⟩
  ·simp only[Array.size_append,List.size_toArray,size_zeroCells,hz4,ho2,List.length_cons,List.length_nil,Nat.mul_one]
   omega
  ·have:(olds.toArray++[β t].toArray++Builtin.zeroCells z.cells (cap-(xs.length+1))).toList.take xs.length=olds:=by
    simp only[Array.toList_append,List.append_assoc]
    rw[←ho2]
    exact List.take_left
   rw[this]
   exact ho1
  ·have:(olds.toArray++[β t].toArray++Builtin.zeroCells z.cells (cap-(xs.length+1))).toList[xs.length]?=some (β t):=by
    simp only[Array.toList_append,List.append_assoc]
    rw[List.getElem?_append_right (by simp[ho2])]
    simp[ho2]
   rw[←Array.getElem?_toList]
   exact this
 have iG:∀ob,Kept w (w.drew.alloc ob) w.heap.size:=λob=>(Kept.alloc w.drew ob).drew
 have ho:=hw.aT d _ hd
 simp only[aa,Nat.mul_one]at ho
 rcases ho with q|⟨q,rfl,-⟩|⟨b,cap,arr,q1,q2,q3,q4,q5,q6,q7,q8,q9,q10,q11⟩
 ·rw[q]at hs1;rw[hs1]at hs2;simp[ew]at hs2
 ·have hr:=run_append_nil (P:=G.P) w T o.type T' i z hT.und hi1 hz1 ⟨bc,0,none⟩ 1 1 [β t] (by rw[hz2];rfl) hcells (by omega) (by omega) (by simp at hb;rw[hz3];omega)
  obtain⟨g1,g2⟩:=iF 0 (by simp)
  simp only[List.length_nil,Nat.zero_add]at g1 g2
  refine fin _ _ w.heap.size (bT h (by rw[hs1,hx1,q];exact hr)) rfl (iG _) (.inl hw.size) fresh (ni _) fnm (.inl rfl) ?_
  have:=jC [] (grownCap w 1 0 T') rfl (by simp) (by simp) (by simpa using g1) g2
  simpa using this
 ·have hbd:blk (β d)=some b:=by rw[q1];rfl
  have hlt:=aY q4
  have hal:arr.toList.length=cap:=by simpa using q5
  have hxl:xs.length≤arr.toList.length:=by omega
  have hnone:∀o:Nat,I b o=none:=λo=>q10 o (by omega)
  by_cases hroom:xs.length+1≤cap
  ·have hr:=run_append_room (P:=G.P) w T o.type T' i hT.und hi1 b xs.length cap arr q4 ⟨bc,0,none⟩ 1 1 [β t] (by rw[hz2];rfl) hcells hone hroom (by rw[hz2,Nat.mul_one,q5];exact hroom)
   rw[hz2,Nat.mul_one]at hr
   refine fin _ _ b (bT h (by rw[hs1,hx1,q1];exact hr)) rfl (Kept.setRow w b _) q11 (other b hbd) (λo v hv=>by rw[hnone o]at hv;cases hv) (hw.gq q4) (.inl rfl) ?_
   have hh:=setRow_heap w b arr (arr.toList.take xs.length++[β t]++arr.toList.drop (xs.length+[β t].length)).toArray T' (0,0) q4
   simp only[aa,bn,bD β _ ae1]
   refine .inr ⟨b,cap,_,rfl,hroom,q3,hh,?_,?_,q7,?_,htn,hnone,q11⟩
   ·simp;omega
   ·have:(arr.toList.take xs.length++[β t]++arr.toList.drop (xs.length+[β t].length)).take xs.length=arr.toList.take xs.length:=by
     rw[List.append_assoc,List.take_append_of_le_length (by rw[List.length_take];omega),List.take_take,Nat.min_self]
    simp only at this ⊢
    rw[this]
    exact q6
   ·have:(arr.toList.take xs.length++[β t]++arr.toList.drop (xs.length+[β t].length))[xs.length]?=some (β t):=by
     rw[List.append_assoc,List.getElem?_append_right (by rw[List.length_take];omega)]
     rw[List.length_take,Nat.min_eq_left hxl,Nat.sub_self];rfl
    rw[←Array.getElem?_toList]
    exact this
  ·have hol:(arr.toList.take xs.length).length=xs.length:=by rw[List.length_take,Nat.min_eq_left hxl]
   have holds:∀j v,(arr.toList.take xs.length)[j]?=some v→w.cell? ((⟨b,0,none⟩:Addr).add j)=some v:=λj v hv=>by
    rw[cS]
    rw[List.getElem?_take]at hv
    split at hv
    ·simp only[World.cell?,q4,Nat.zero_add];simpa using hv
    ·cases hv
   have hr:=run_append_grow (P:=G.P) w T o.type T' i z hT.und hi1 hz1 ⟨b,0,none⟩ xs.length cap _ (by rw[hz2,Nat.mul_one];exact hol) holds ⟨bc,0,none⟩ 1 1 [β t] (by rw[hz2];rfl) hcells (by omega) (by omega) (growslice_fits (by omega) (by rw[hz3];exact hb))
   obtain⟨g1,g2⟩:=iF cap (by omega)
   exact fin _ _ w.heap.size (bT h (by rw[hs1,hx1,q1];exact hr)) rfl (iG _) (.inl hw.size) fresh (ni _) fnm (.inl rfl) (jC _ _ q6 hol q7 g1 g2)
end
end Go.Proofs.Ytmnbolcmepihlaa
