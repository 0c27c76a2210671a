/- Several texts in one. No condition but those that stand in each. -/
import Derived.Test.YtmnbolcmepihlaaGreatZ2
import Derived.Test.YtmnbolcmepihlaaGreatZ3
import Derived.Test.YtmnbolcmepihlaaGreatZ1
namespace Go.Proofs.YtmnbolcmepihlaaGreat
section
set_option linter.all false
open Go List
section
section
def cV.row{I aU:bs}(hle:cn I aU){b:Nat}:∀(cs:List Q) (vs:dZ) (o:Nat),cV I cs vs→(∀j,j<vs.length→aU b ((o+j:Nat):ku)=vs[j]?)→k4 aU b cs o
 |[],_,_,_,_=>by simp[k4]
 |x::r,vs,o,h,aT=>by
  simp only[cV]at h;obtain⟨aA,bI,rfl,h1,D⟩:=h;simp only[k4];refine⟨⟨aA,?_,jV hle _ _ h1⟩,cV.row hle r bI (o+1) D λj pL=>?_⟩
  ·have:=aT 0 (by simp);simpa using this
  ·have:=aT (j+1) (by simp;omega);rw[show o+1+j=o+(j+1)by omega];simpa using this
def atd{G:ch}{env:ah}{σ:Y}(t C:Nat){T:Nat}{cs:List Q}(bE:env.get t=.ptr C 0)(n1:σ.get C=some (.cells T cs))(af:lT cs=true):cr G env σ ((t,.fO cs)::env) (σ.minus [C]):=by
 intro cx I β a w h b3;have ai:=h.cw C _ n1;simp only[aY]at ai;have aC:=b3 t;rw[bE]at aC;simp only[au]at aC;obtain⟨b,U,akA⟩:=aC;rcases ai with q|⟨aP,arr,ak,ar,aM,aK,be⟩
 ·rw[q]at U;simp[b1]at U
 ·have rJ:aP=b:=by rw[ak]at U;simpa [b1]using U
  subst rJ
  let aU:bs:=I.on λdO o=>if dO=aP then arr[o]? else I dO o
  have hle:cn I aU:=λdO o v aa=>by
   cases o with
   |none=>exact aa
   |some o=>
   show(if dO=aP then arr[o]? else I dO o)=some v;split
   ·rename_i cA;subst cA;rw[aK]at aa;cases aa
   ·exact aa
  have jf:∀dO o,dO≠aP→aU dO o=I dO o:=λdO o cb=>by
   cases o with
   |none=>rfl
   |some o=>
   show(if dO=aP then arr[o]? else I dO o)=_;rw[if_neg cb]
  have pO:∀d o,(σ.minus [C]).get d=some o→d≠C∧σ.get d=some o:=λd o Z=>by
   rw[asG]at Z;split at Z
   ·cases Z
   ·rename_i hm;exact⟨by simpa using hm,Z⟩
  have Sk:∀d,((σ.minus [C]).get d).isSome→(σ.get d).isSome:=λd Z=>by
   obtain⟨o,ai⟩:=Option.isSome_iff_exists.1 Z;rw[(pO d o ai).2];rfl
  have iz:k4 aU aP cs 0:=cV.row hle cs arr.toList 0 (Nq af aM) λj aT=>by
   show(if aP=aP then arr[0+j]? else I aP (some (0+j)))=_;rw[if_pos rfl];simp
  refine⟨aU,β,{good:=λdO o v aa=>?_,hM:=h.hM,jg:=λdO o v aa=>hle _ _ _ (h.jg _ _ _ aa),iV:=λdO fA aR o=>?_,frame:=h.frame,size:=h.size,tape:=h.tape,os:=h.os,output:=h.output,drawn:=h.drawn,cw:=λd o Z=>?_,dA:=λd dh Z dH=>h.dA d dh (Sk d Z) (Sk dh dH),keep:=h.keep},λamp=>?_⟩
  ·change (if dO=aP then arr[o]? else I dO o)=some v at aa
   split at aa
   ·rename_i cA;subst cA;simp only[World.cell?,ar];simpa using aa
   ·exact h.good dO o v aa
  ·have cb:dO≠aP:=λe=>by
    subst e;rcases be with q|q
    ·omega
    ·exact aR q
   rw[jf dO o cb];exact h.iV dO fA aR o
  ·obtain⟨ajG,tK⟩:=pO d o Z;refine(h.cw d o tK).Mq hle jf λdO fA cB=>?_;subst cB;exact h.dA d C (by rw[tK];rfl) (by rw[n1];rfl) ajG dO fA (j8 U)
  ·rw[asI];split
   ·rename_i e;subst e
    simp only[au,bc];exact⟨aP,0,akA,iz⟩
   ·exact(b3.mono hle (hp.refl β)) amp
end
section
variable {G:ch}{o:Oper}{ev:Operand→Q}{σ:Y}
end
section
variable {P:Program}
def Yields.eU{G:ch}{o:Oper}{ev:Operand→Q}{σ:Y}{dI R:dg}{f:Nat}{l:List Q}(h:Yields G o ev σ dI R (.fn f l))(af:lT l=true):Yields G o ev σ dI R (.eU f l):=λaz cx I β w aZ cf an hm hop=>by
 have:=h az cx I β w aZ cf an hm hop;generalize (execOp aZ o).run G.P w=r at this
 have key:∀v w',(∃aU β',au aU β' (.fn f l) v∧bY G cx aU β' az w'∧cn I aU∧(∀d,d∉dI→β' d=β d))→∃aU β',au aU β' (.eU f l) v∧bY G cx aU β' az w'∧cn I aU∧(∀d,d∉dI→β' d=β d):=λv w' ⟨aU,β',h1,D⟩=>by
  simp only[au]at h1;obtain⟨vs,rfl,aj⟩:=h1;exact⟨aU,β',by simp only[au,bc];exact⟨vs,rfl,Nq af aj⟩,D⟩
 cases r with
 |halt x w'=>exact this.elim
 |ok n w'=>cases n with
  |value v=>exact key _ _ this
  |skip=>exact key _ _ this
  |enter f args=>exact Calls.mono this λe uv ⟨v,h1,D⟩=>⟨v,h1,key _ _ D⟩
  |_=>exact this.elim
def K6(op:Op)(env:ah):Option (c7×cZ):=match op with
 |.makeFunc (.func f) first aO=>match first.toList with
  |[]=>(match env.pn aO.toList with
   |some l=>bif lT l then some (.y [] (.eU f l),([],[]))else none
   |_=>none)
  |_=>none
 |_=>none
def aeH{o:Oper}{N:Nat}{ids:dg}{env:ah}{σ:Y}{s:c7}{aX:cZ}(h:K6 o.op env=some (s,aX)):fP ⟨P,N,ids⟩ o env σ s:=by
 unfold K6 at h;split at h
 ·rename_i f first aO ai;split at h
  ·rename_i bm;split at h
   ·rename_i l aH;cases af:lT l with
    |false=>rw[af]at h;cases h
    |true=>
     rw[af]at h;cases h
     have aJ:first=#[]:=by simpa using congrArg toArray bm
     subst aJ;exact Yields.eU (b7.makeFunc ai aH) af
   ·cases h
  ·cases h
 ·cases h
def GN:Hint P:=.gs false ([],[]) (λ_ op env _=>K6 op env) λ_ _ _ _ _ _ _ h _=>aeH h
end
end
section
section
variable {G:ch}{σ:Y}{o:Oper}{ev:Operand→Q}
def R2{cx:eW}{I:bs}{β:Nat→Value}{w:World}(an:bY G cx I β σ w){d T t:Nat}{xs:List (List Q)}(Z:σ.get d=some (.gP T xs t))(aR:β d≠.nilFunc):
  ∃b aO arr,β d=.slice (some ⟨b,0,none⟩) (xs.length+1) aO∧xs.length+1≤aO∧aO≤maxLen∧w.heap[b]?=some (.cells arr T (0,0))∧arr.size=aO∧
    cV I xs.flatten (arr.toList.take xs.length)∧(∀e∈xs,e.length=1)∧arr[xs.length]?=some (β t)∧β t≠.nilFunc∧(∀o:Nat,I b o=none)∧Place cx b:=by
 have ai:=an.cw d _ Z;simp only[aY,aR,false_or]at ai;exact ai
def at6{T E d bn t:Nat}{xs:List (List Q)}{x y:Operand}{k:IntKind}{i:Int}(h:o.op=.indexAddr T x y)(u:ev x=.own d)(ag:ev y=.int k i)(Z:σ.get d=some (.gP bn xs t))(aQ:kV G.P T E 1)
  (hi:0≤i∧i<(xs.length:Int)+1):Yields G o ev σ [] [d] (.ptr d i.toNat):=
 .pure λaz cx I β w aZ cf an hop=>by
  have h1:=hop x (by simp[h,Op.operands]);rw[u]at h1
  have D:=hop y (by simp[h,Op.operands]);rw[ag]at D;have D:=jW D
  simp only[au]at h1;obtain⟨h1,X⟩:=h1;have iR:β d≠.nilFunc:=λe=>by rw[h1,e]at X;simp[iD]at X
  obtain⟨b,aO,arr,ak,ar,aM,aK,_⟩:=R2 an (by rw[cf d (by simp)];exact Z) iR;refine⟨.pointer (some ⟨b,i.toNat,none⟩),?_,by simp only[au];exact⟨b,by rw[ak];rfl,rfl⟩⟩;have aJ:∀w,(underlying T).run G.P w=.ok (.slice E) w:=λw=>by simp[underlying,program,Sem.run,aQ.gY]
  rw[ak]at h1;have rK:0≤i∧i<(xs.length:Int)+1:=hi;have DR:¬((xs.length:Int)+1≤i):=by omega
  simp[DR,execOp,h,h1,D,Instr.indexAt,asIntOf,aJ,rK,aQ.size,mc]
def PZ{cx:eW}{I:bs}{β:Nat→Value}{w:World}(an:bY G cx I β σ w){d T t p:Nat}{xs:List (List Q)}(Z:σ.get d=some (.gP T xs t)){v:Value}(h1:au I β (.ptr d p) v):
  ∃b arr,v=.pointer (some ⟨b,p,none⟩)∧w.heap[b]?=some (.cells arr T (0,0))∧cV I xs.flatten (arr.toList.take xs.length)∧(∀e∈xs,e.length=1)∧arr[xs.length]?=some (β t)∧β t≠.nilFunc∧xs.length+1≤arr.size:=by
 simp only[au]at h1;obtain⟨b,h1,D⟩:=h1;have iR:β d≠.nilFunc:=λe=>by rw[e]at h1;cases h1
 obtain⟨aP,aO,arr,ak,ar,aM,aK,be,bJ,b8,cT,dD,eB,fm⟩:=R2 an Z iR;have rJ:aP=b:=by rw[ak]at h1;simpa [b1]using h1
 subst rJ;exact⟨aP,arr,D,aK,bJ,b8,cT,dD,by omega⟩
def cc.Gb:cc→Bool
 |.map ..=>true
 |.gz ..=>true
 |_=>false
def at0{T d p bn t:Nat}{xs:List (List Q)}{x:Operand}{jJ:cc}(h:o.op=.load T x)(u:ev x=.ptr d p)(Z:σ.get d=some (.gP bn xs t))(aC:p=xs.length)(bE:σ.get t=some jJ)(hm:jJ.Gb=true)(aQ:dL G.P T 1 false):
  Yields G o ev σ [] [d,t] (.dr t):=
 .pure λaz cx I β w aZ cf an hop=>by
  have h1:=hop x (by simp[h,Op.operands]);rw[u]at h1
  obtain⟨b,arr,D,aK,bJ,b8,cT,dD,eB⟩:=PZ an (by rw[cf d (by simp)];exact Z) h1
  have pK:∀j,j<1→∃v,[β t][j]?=some v∧w.cell? ⟨b,p+j,none⟩=some v:=λj aT=>by
   have:j=0:=by omega
   subst this;exact⟨β t,rfl,by subst aC;simp[World.cell?,aK,cT]⟩
  have aH:=Bi aQ (vs:=[β t]) pK (λ_=>by omega);refine⟨β t,by simp[execOp,h,D,Instr.loadAt,Instr.sureAddr,aH],?_⟩;simp only[au,true_and];have ai:=an.cw t jJ (by rw[cf t (by simp)];exact bE);cases jJ<;>simp only[cc.Gb,reduceCtorEq]at hm
  ·simp only[aY,dD,false_or]at ai;obtain⟨r,_,_,e,_⟩:=ai;rw[e];rfl
  ·simp only[aY,dD,false_or]at ai;obtain⟨r,e,_⟩:=ai;rw[e];rfl
def P0:∀{xs:List (List Q)} {p:Nat} {a:Q},(∀e∈xs,e.length=1)→xs[p]?=some [a]→xs.flatten[p]?=some a
 |[],_,_,_,h=>by simp at h
 |e::r,p,a,aH,h=>by
  obtain⟨c,rfl⟩:∃c,e=[c]:=length_eq_one_iff.1 (aH e (by simp));cases p with
  |zero=>simp at h;subst h;rfl
  |succ p=>simp only[flatten_cons,singleton_append,getElem?_cons_succ]at h ⊢;exact P0 (λe he=>aH e (by simp[he])) h
def at1{T d p bn t:Nat}{xs:List (List Q)}{x:Operand}{a:Q}(h:o.op=.load T x)(u:ev x=.ptr d p)(Z:σ.get d=some (.gP bn xs t))(aC:xs[p]?=some [a])(aQ:dL G.P T 1 false):
  Yields G o ev σ [] [d] a:=
 .pure λaz cx I β w aZ cf an hop=>by
  have h1:=hop x (by simp[h,Op.operands]);rw[u]at h1
  obtain⟨b,arr,D,aK,bJ,b8,cT,dD,eB⟩:=PZ an (by rw[cf d (by simp)];exact Z) h1;obtain⟨v,cp,cG⟩:=IB (β:=β) (cV.rep β _ _ bJ) (P0 b8 aC);have nD:p<xs.length:=(List.getElem?_eq_some_iff.1 aC).1;have gC:arr[p]?=some v:=by
   rw[getElem?_take,if_pos nD]at cp;simpa using cp
  have pK:∀j,j<1→∃dF,[v][j]?=some dF∧w.cell? ⟨b,p+j,none⟩=some dF:=λj aT=>by
   have:j=0:=by omega
   subst this;exact⟨v,rfl,by simp[World.cell?,aK,gC]⟩
  have aH:=Bi aQ (vs:=[v]) pK (λ_=>by omega);exact⟨v,by simp[execOp,h,D,Instr.loadAt,Instr.sureAddr,aH],cG⟩
def auB{s x:Operand}{T E bytes d d2 mA t aV Az:Nat}{c5:Bool}{xs:List (List Q)}(h:o.op=.call ⟨.builtin .append,#[s,x],#[T,T]⟩)(X:ev s=.own d)(Z:σ.get d=some (.slice aV 1 xs 0 c5))(u:ev x=.fR (.AH 1) mA)(fM:σ.get mA=some (.cells Az [.dr t]))(aQ:kR G.P T E 1 bytes)(iP:aV=E)
  (U:(xs.length+1)*bytes≤140737488355328) (qg:xs.length+1≤maxLen) (hi:G.ids.contains d2=false)
  (af:(σ.minus [d]).clean [d2].contains=true) (LN:mA≠d) (Vz:t≠d) :
  h5 G o ev σ [d,d2] [d2] (λr az=>r=.own d2∧az=(d2,.gP aV xs t)::σ.minus [d]):=by
 subst iP;intro cx I β w aZ an hop;have eV:=hop s (by simp[h,Op.operands,Call.operands]);rw[X]at eV;simp only[au]at eV;obtain⟨eV,ef⟩:=eV;have cH:=hop x (by simp[h,Op.operands,Call.operands]);rw[u]at cH;simp only[au]at cH;obtain⟨yx,lZ,cH⟩:=cH;have cH:aZ x=.slice (some ⟨yx,0,none⟩) 1 1:=cH;obtain⟨i,z,hE,i4,h9,od,u0⟩:=aQ.info;have ajK:(σ.minus [d]).get mA=some (.cells Az [.dr t]):=by rw[asG,if_neg (by simpa using LN)];exact fM
 have TT:t≠d2:=λe=>by
  have:=(asF af mA _ ajK).2;simp[nV,o6,Q.refs,e]at this
 have tJ:w.cell? ⟨yx,0,none⟩=some (β t)∧mJ (β t)=true:=by
  have LL:β mA≠.nilFunc:=λe=>by rw[e]at lZ;cases lZ
  have ai:=an.cw mA _ fM;simp only[aY,LL,false_or]at ai;obtain⟨b,arr,ak,ar,aM,_⟩:=ai;have:b=yx:=by rw[ak]at lZ;simpa [b1]using lZ
  subst this;simp only[bW,au]at aM;obtain⟨aA,bI,aJ,⟨e2,dm⟩,gb⟩:=aM;subst gb;have:arr[0]?=some aA:=by
   have:arr.toList[0]?=some aA:=by rw[aJ];rfl
   simpa using this
  rw[e2]at this dm;exact⟨by simp[World.cell?,ar,this],dm⟩
 have uX:β t≠.nilFunc:=λe=>by rw[e]at tJ;simp[mJ]at tJ
 have oU:∀v∈[β t],v.oneCell'=true:=λv aa=>by
  rw[List.mem_singleton.1 aa];have:=tJ.2;cases A2:β t<;>rw[A2]at this<;>simp[mJ]at this<;>rfl
 have mD:xs.length+1≤9223372036854775807:=by simp only[maxLen]at qg;omega
 have oc:bY G cx I β (σ.minus [d]) w:=an.sub λx aX u=>by rw[asG]at u;split at u<;>first|cases u|exact u
 have oG:=oc.qy (dI:=[d2]) (σ2:=(d2,.gP aV xs t)::σ.minus [d]) (env:=[]) ⟨λx u=>by rw[asw,if_neg (λe=>u (by simp[e]))],λx u=>by simp at u;subst u;simpa using hi,rfl,af,λx u cz n h=>by simp at u;subst u;rw[asw,if_pos rfl]at h;cases h⟩;have ig:∀x,x≠d2→gI β [d2] x=β x:=λx u=>by simp[gI,u]
 have fin:∀(dF:Value) (w':World) (b:Nat),(execOp aZ o).run G.P w=.ok (.value dF) w'→iD dF=true→gK w w' b→Place cx b→(∀x,((σ.minus [d]).get x).isSome→b∉c2 (β x))→
   (∀(o:Nat) v,I b o=some v→w'.cell? ⟨b,o,none⟩=some v)→I b none=none→(b1 dF=some b∨c2 dF=[])→aY cx I (g7 β d2 dF) w' d2 (.gP aV xs t)→
   m3 G.P (λv w'=>∃(bN:Q) (az:Y) (aU:bs) (β':Nat→Value),(bN=.own d2∧az=(d2,cc.gP aV xs t)::σ.minus [d])∧au aU β' bN v∧bY G cx aU β' az w'∧cn I aU∧(∀x,x∉[d2]→β' x=β x)∧(∀x,x∉[d,d2]→az.get x=σ.get x)) ((execOp aZ o).run G.P w):=by
  intro dF w' b eY iA hk aC qQ zX y9 fL cC;rw[eY];refine⟨.own d2,_,I,g7 β d2 dF,⟨rfl,rfl⟩,by simp only[au,gL,iA,and_self],?_,cn.refl I,λx u=>g5 β dF (by simpa using u),λx u=>?_⟩
  ·refine oG.turn (d:=d2) hk aC (λ_ _=>rfl) (λx u mD e=>?_) (cn.refl I) (λ_ _ _=>rfl) zX y9 (λx u=>by rw[g5 β dF u,ig x u]) (.inl (by simpa using hi)) (λx=>?_) (by rw[gL];exact fL) (λaX mL=>?_)
   ·rw[asw,if_neg (Ne.symm u)]at mD;rw[ig x u]at e;exact qQ x mD e
   ·by_cases u:x=d2
    ·left;simp[gI,u]
    ·right;rw[g5 β dF u,ig x u]
   ·rw[asw,if_pos rfl]at mL;injection mL with mL
    subst mL;exact cC
  ·have u:x≠d∧x≠d2:=by simpa using u
   rw[asw,if_neg (Ne.symm u.2),asG,if_neg (by simpa using u.1)]
 have other:∀b,b1 (β d)=some b→∀x,((σ.minus [d]).get x).isSome→b∉c2 (β x):=λb fL x u e=>by
  rw[asG]at u;split at u
  ·cases u
  ·rename_i oH;exact an.dA x d u (by rw[Z];rfl) (by simpa using oH) b e (j8 fL)
 have tq:∀x,((σ.minus [d]).get x).isSome→w.heap.size∉c2 (β x):=λx u e=>by
  obtain⟨aX,u⟩:=Option.isSome_iff_exists.1 u;exact absurd (oc.sL u e) (by omega)
 have xd:I w.heap.size none=none:=an.iF (Nat.le_refl _) none;have x6:∀(w':World) (o:Nat) v,I w.heap.size o=some v→w'.cell? ⟨w.heap.size,o,none⟩=some v:=λw' o v aa=>by rw[an.iF (Nat.le_refl _)]at aa;cases aa
 have sM:∀ms,ms<xs.length+1→xs.length+1≤grownCap w (xs.length+1) ms aV∧grownCap w (xs.length+1) ms aV≤maxLen:=λms _=>⟨grownCap_ge _ _ _ _,grownCap_le_maxLen _ _ _ _ qg⟩
 have kT:∀j aA,[β t][j]?=some aA→w.cell? ((⟨yx,0,none⟩:Addr).add j)=some aA:=λj aA hu=>by
  cases j with
  |zero=>simp at hu;subst hu;rw[mc];exact tJ.1
  |succ j=>simp at hu
 have ve:∀(h0:dZ) (aO:Nat),cV I xs.flatten h0→h0.length=xs.length→(∀e∈xs,e.length=1)→xs.length+1≤aO→aO≤maxLen→
   aY cx I (g7 β d2 (.slice (some ⟨w.heap.size,0,none⟩) (xs.length+1) aO)) (w.drew.alloc (.cells (h0.toArray++[β t].toArray++Builtin.zeroCells z.cells (aO-(xs.length+1))) aV)) d2 (.gP aV xs t):=by
  intro h0 aO oa k1 DX qh qO;simp only[aY,gL,g5 β _ TT];refine .inr ⟨w.heap.size,aO,_,rfl,qh,qO,heap_alloc_new w.drew _,?_,?_,DX,?_,uX,λo=>an.iF (Nat.le_refl _) o,.inl an.size⟩
  ·simp only[Array.size_append,size_toArray,size_zeroCells,u0,k1,length_cons,length_nil,Nat.mul_one];omega
  ·have:(h0.toArray++[β t].toArray++Builtin.zeroCells z.cells (aO-(xs.length+1))).toList.take xs.length=h0:=by
    simp only[Array.toList_append,List.append_assoc];rw[←k1];exact take_left
   rw[this];exact oa
  ·have:(h0.toArray++[β t].toArray++Builtin.zeroCells z.cells (aO-(xs.length+1))).toList[xs.length]?=some (β t):=by
    simp only[Array.toList_append,List.append_assoc];rw[List.getElem?_append_right (by simp[k1])];simp[k1]
   rw[←Array.getElem?_toList];exact this
 have sN:∀aX,gK w (w.drew.alloc aX) w.heap.size:=λaX=>(gK.alloc w.drew aX).drew;have ai:=an.cw d _ Z;simp only[aY,Nat.mul_one]at ai;rcases ai with q|⟨q,rfl,-⟩|⟨b,aO,arr,ak,ar,aM,aK,be,bJ,b8,cT,dD,eB,fm⟩
 ·rw[q]at eV;rw[eV]at ef;simp[iD]at ef
 ·have aB:=run_append_nil (P:=G.P) w T o.type aV i z aQ.gY hE i4 ⟨yx,0,none⟩ 1 1 [β t] (by rw[h9];rfl) kT (by omega) (by omega) (by simp at U;rw[od];omega);obtain⟨cp,cG⟩:=sM 0 (by simp);simp only[length_nil,Nat.zero_add]at cp cG;refine fin _ _ w.heap.size (ov h (by rw[eV,cH,q];exact aB)) rfl (sN _) (.inl an.size) tq (x6 _) xd (.inl rfl) ?_;have:=ve [] (grownCap w 1 0 aV) rfl (by simp) (by simp) (by simpa using cp) cG;simpa using this
 ·have fL:b1 (β d)=some b:=by rw[ak];rfl
  have bL:=hC aK;have tG:arr.toList.length=aO:=by simpa using be
  have o3:xs.length≤arr.toList.length:=by omega
  have DW:∀o:Nat,I b o=none:=λo=>eB o (by omega);by_cases oZ:xs.length+1≤aO
  ·have aB:=run_append_room (P:=G.P) w T o.type aV i aQ.gY hE b xs.length aO arr aK ⟨yx,0,none⟩ 1 1 [β t] (by rw[h9];rfl) kT oU oZ (by rw[h9,Nat.mul_one,be];exact oZ);rw[h9,Nat.mul_one]at aB;refine fin _ _ b (ov h (by rw[eV,cH,ak];exact aB)) rfl (gK.setRow w b _) fm (other b fL) (λo v aa=>by rw[DW o]at aa;cases aa) (an.tu aK) (.inl rfl) ?_;have cA:=setRow_heap w b arr (arr.toList.take xs.length++[β t]++arr.toList.drop (xs.length+[β t].length)).toArray aV (0,0) aK;simp only[aY,gL,g5 β _ TT];refine .inr ⟨b,aO,_,rfl,oZ,aM,cA,?_,?_,b8,?_,uX,DW,fm⟩
   ·simp;omega
   ·have:(arr.toList.take xs.length++[β t]++arr.toList.drop (xs.length+[β t].length)).take xs.length=arr.toList.take xs.length:=by
     rw[List.append_assoc,take_append_of_le_length (by rw[length_take];omega),take_take,Nat.min_self]
    simp only at this ⊢;rw[this];exact bJ
   ·have:(arr.toList.take xs.length++[β t]++arr.toList.drop (xs.length+[β t].length))[xs.length]?=some (β t):=by
     rw[List.append_assoc,List.getElem?_append_right (by rw[length_take];omega)];rw[length_take,Nat.min_eq_left o3,Nat.sub_self];rfl
    rw[←Array.getElem?_toList];exact this
  ·have qR:(arr.toList.take xs.length).length=xs.length:=by rw[length_take,Nat.min_eq_left o3]
   have sE:∀j v,(arr.toList.take xs.length)[j]?=some v→w.cell? ((⟨b,0,none⟩:Addr).add j)=some v:=λj v aa=>by
    rw[mc];rw[getElem?_take]at aa;split at aa
    ·simp only[World.cell?,aK,Nat.zero_add];simpa using aa
    ·cases aa
   have aB:=run_append_grow (P:=G.P) w T o.type aV i z aQ.gY hE i4 ⟨b,0,none⟩ xs.length aO _ (by rw[h9,Nat.mul_one];exact qR) sE ⟨yx,0,none⟩ 1 1 [β t] (by rw[h9];rfl) kT (by omega) (by omega) (growslice_fits (by omega) (by rw[od];exact U));obtain⟨cp,cG⟩:=sM aO (by omega);exact fin _ _ w.heap.size (ov h (by rw[eV,cH,ak];exact aB)) rfl (sN _) (.inl an.size) tq (x6 _) xd (.inl rfl) (ve _ _ bJ qR b8 cp cG)
end
end
section
def atK{G:ch}{env:ah}{σ:Y}(d t:Nat){T K E:Nat}{xs:List (List Q)}{bH:List (Q×Q)}(Z:σ.get d=some (.gP T xs t))(bE:σ.get t=some (.kf K E bH)):
  cr G env σ env (σ.set d (.slice T 1 (xs++[[.dw bH]]) 0 false)):=λcx I β a w h b3=>by
 refine⟨I,β,BP Z h ?_,b3⟩;have ai:=h.cw d _ Z;have hm:=h.cw t _ bE;simp only[aY]at ai hm ⊢;rcases ai with q|⟨b,aO,arr,ak,ar,aM,aK,be,bJ,b8,cT,dD,eB,fm⟩
 ·exact .inl q
 ·obtain⟨r,es,clock,cQ,dM,eH,i6,pl⟩:=hm.resolve_left dD;refine .inr (.inr ⟨b,aO,arr,by rw[ak];simp,by simpa using ar,aM,aK,by omega,?_,λe he=>?_,by simp,by simp,λo _=>eB o,fm⟩)
  ·have bL:xs.length<arr.toList.length:=by simpa using (Array.getElem?_eq_some_iff.1 cT).1
   have aJ:arr.toList[xs.length]?=some (β t):=by simpa using cT
   have e2:arr.toList.take ((xs++[[Q.dw bH]]).length*1)=arr.toList.take xs.length++[β t]:=by
    rw[length_append,length_singleton,Nat.mul_one,take_add_one,aJ];rfl
   rw[e2,List.flatten_append];refine(ox _ _ _).2 ⟨_,_,rfl,bJ,?_⟩;simp only[flatten_cons,flatten_nil,append_nil,cV,bc];exact⟨β t,[],rfl,⟨r,es,clock,cQ,dM,eH,pl⟩,rfl⟩
  ·rcases List.mem_append.1 he with he|he
   ·exact b8 e he
   ·rw[List.mem_singleton.1 he];rfl
def ni(k:IntKind)(n:Int)(es:iT)(clock:Nat):Nat:=match Instr.findNow (.int k) (.int k n) es.toList 0 with
 |some (some (j,_))=>((es[j]?).map (·.born)).getD 0
 |_=>clock
def kG(k:IntKind)(n:Int)(z:Value)(es:iT)(clock:Nat):iT:=match Instr.findNow (.int k) (.int k n) es.toList 0 with
 |some (some _)=>es
 |_=>es.push ⟨.int k n,z,clock⟩
def r8(k:IntKind)(n:Int)(es:iT)(clock:Nat):Nat:=match Instr.findNow (.int k) (.int k n) es.toList 0 with
 |some (some _)=>clock
 |_=>clock+1
def Wh(kd:TypeDesc)(key:Value)(B:nM):∀(A:nM) (i:Nat),Instr.findNow kd key A i=some none→Instr.findNow kd key (A++B) i=Instr.findNow kd key B (i+A.length)
 |[],i,_=>rfl
 |e::A,i,h=>by
  simp only[Instr.findNow,cons_append]at h ⊢;cases X:Instr.sameNow kd key e.key with
  |none=>rw[X]at h;cases h
  |some b=>
   cases b with
   |true=>rw[X]at h;cases h
   |false=>
    rw[X]at h;simp only at h ⊢;rw[Wh kd key B A (i+1) h,length_cons];congr 1;omega
def XY{α:Type}{l:Array α}{j:Nat}{f:α→α}(h:∀e,l[j]?=some e→f e=e):l.modify j f=l:=by
 apply Array.ext_getElem?;intro i;rw[Array.getElem?_modify];split
 ·rename_i aT;subst aT;cases he:l[j]? with
  |none=>rfl
  |some e=>simp[h e he]
 ·rfl
def EP{α:Type}(n:Int)(v:α):∀l:List (Int×α),aD (bG l n v) n=some v
 |[]=>by simp[bG,aD]
 |p::r=>by
  unfold bG;split
  ·simp[aD]
  ·rename_i aC;have:=EP n v r;unfold aD at this ⊢;rw[find?_cons_of_neg (by simpa using aC)];exact this
def Pb{α:Type}{n:Int}:∀{l:List (Int×α)} {v:α},aD l n=some v→bG l n v=l
 |[],_,h=>by simp[aD]at h
 |p::r,v,h=>by
  unfold bG;unfold aD at h;split
  ·rename_i aC;rw[find?_cons_of_pos (by simpa using aC)]at h;simp at h;obtain⟨cQ,dM⟩:=p;simp only at aC h;rw[aC,h]
  ·rename_i aC;rw[find?_cons_of_neg (by simpa using aC)]at h;rw[Pb (l:=r) h]
def NS{α:Type}(n:Int)(aA v:α):∀l:List (Int×α),bG (bG l n aA) n v=bG l n v
 |[]=>by simp[bG]
 |p::r=>by
  by_cases aC:p.1=n
  ·simp[bG,aC]
  ·simp[bG,aC,NS n aA v r]
section
variable {G:ch}{σ:Y}{o:Oper}{ev:Operand→Q}
def au8{α:Type}{T K E d clock:Nat}{k:IntKind}{x y:Operand}{n:Int}{es:iT}{z:Value}(l:List (Int×α))(enc:α→Q)(rj:α)(h:o.op=.mapEntry T x y)(u:ev x=.dr d)(ag:ev y=.int k n)
  (Z:σ.get d=some (.gz es clock K E (bQ k enc l))) (aQ:kF G.P T K E k) (hz:∀w,(zeroValue E).run G.P w=.ok z w) (D7:∀I,bc I (enc rj) z) :
  h5 G o ev σ [d] [] (λr az=>r=.cI [.e9,.int .i64 (ni k n es clock:Int)]∧az=σ.set d (.gz (kG k n z es clock) (r8 k n es clock) K E (bQ k enc (bG l n ((aD l n).getD rj))))):=by
 intro cx I β w aZ an hop;have h1:=hop x (by simp[h,Op.operands]);rw[u]at h1
 have D:=hop y (by simp[h,Op.operands]);rw[ag]at D;have D:=jW D
 simp only[au]at h1;obtain⟨h1,qN⟩:=h1;have iR:β d≠.nilFunc:=λe=>by rw[h1,e]at qN;simp[mJ]at qN
 have ai:=an.cw d _ Z;simp only[aY,iR,false_or]at ai;obtain⟨r,ak,ar,aM,aK,be,bJ⟩:=ai;have aJ:∀w,(underlying T).run G.P w=.ok (.map K E) w:=λw=>by simp[underlying,program,Sem.run,aQ.gY]
 have e2:∀w,(underlying K).run G.P w=.ok (.int k) w:=λw=>by simp[underlying,program,Sem.run,aQ.key]
 have dm:=xD (P:=G.P) ar;have gb:=Bk (P:=G.P) aQ.key false n w
 have ig:∀aX:Obj,(setObj r aX).run G.P w=.ok () {w with heap:=w.heap.setIfInBounds r aX}:=λaX=>by
  have:=hC ar;simp[setObj,Sem.run,ar]
 have nk:aZ x=.map (some r):=by rw[h1,ak]
 have zD:∃v,(execOp aZ o).run G.P w=.ok (.value (.tuple #[v,.int .i64 (ni k n es clock:Int)])) {w with heap:=w.heap.setIfInBounds r (.map (kG k n z es clock) (r8 k n es clock))}∧gq I (bQ k enc (bG l n ((aD l n).getD rj))) (kG k n z es clock).toList∧jZ (kG k n z es clock) (r8 k n es clock):=by
  cases bu:aD l n with
  |none=>
   obtain⟨cQ,dM⟩:=ED n l es.toList 0 aM bu;have gU:(Instr.findKey K (.int k n) es.toList).run G.P w=.ok none w:=by simp[Instr.findKey,e2,cQ]
   have dO:ni k n es clock=clock:=by unfold ni;rw[cQ]
   have ep:kG k n z es clock=es.push ⟨.int k n,z,clock⟩:=by unfold kG;rw[cQ]
   have hg:r8 k n es clock=clock+1:=by unfold r8;rw[cQ]
   rw[dO,ep,hg];refine⟨z,by simp[execOp,h,Instr.mapEntry,nk,D,aJ,dm,gb,gU,ig,hz,goInt],?_,bJ.push _ _⟩;simpa using dM rj ⟨.int k n,z,clock⟩ (D7 I) rfl
  |some a=>
   obtain⟨j,aA,cQ,dM,cB,eH,i6,pl⟩:=EC n l es.toList 0 a aM bu;have gU:(Instr.findKey K (.int k n) es.toList).run G.P w=.ok (some (0+j,aA)) w:=by simp[Instr.findKey,e2,cQ]
   have i1:es[j]?=some cB:=by simpa using eH
   have oy:(Instr.keyThatStays (.int k n) (.int k n)).run G.P w=.ok (.int k n) w:=by simp[Instr.keyThatStays,Instr.sameBits]
   have dO:ni k n es clock=cB.born:=by unfold ni;rw[cQ];simp[i1]
   have ep:kG k n z es clock=es:=by unfold kG;rw[cQ]
   have hg:r8 k n es clock=clock:=by unfold r8;rw[cQ]
   have kM:es.modify j (λe=>{e with key:=.int k n})=es:=XY λe he=>by
    rw[i1]at he;cases he;rw[←i6]
   rw[dO,ep,hg];refine⟨aA,by simp[execOp,h,Instr.mapEntry,nk,D,aJ,dm,gb,gU,ig,i1,i6,oy,goInt,kM],?_,bJ⟩;rw[show(some a:Option α).getD rj=a from rfl,Pb bu];exact aM
 obtain⟨v,eY,iP,dc⟩:=zD;rw[eY];refine⟨.cI [.e9,.int .i64 (ni k n es clock:Int)],_,I,β,⟨rfl,rfl⟩,by simp[au,bW,bc],?_,cn.refl I,λ_ _=>rfl,λx u=>by rw[asB,if_neg (by simpa using u)]⟩;have fL:b1 (β d)=some r:=by rw[ak];rfl
 refine an.turn (d:=d) (asJ w r _) be (λx u=>by rw[asB,if_neg u]) (λx u X e=>an.dA x d X (by rw[Z];rfl) u r e (j8 fL)) (cn.refl I) (λ_ _ _=>rfl)
  (λo v aa=>by rw[aK o]at aa;cases aa) (aK none) (λ_ _=>rfl) (.inr rfl) (hp.refl β) (.inl fL) λaX cC=>?_
 rw[asB,if_pos rfl,Z]at cC;injection cC with cC
 subst cC;simp only[aY];exact .inr ⟨r,ak,by have:=hC ar;simp[Array.getElem?_setIfInBounds,this],iP,aK,be,dc⟩
def ahd{I:bs}{α:Type}{k:IntKind}{n:Int}{es:iT}{clock:Nat}{z:Value}{l:List (Int×α)}{enc:α→Q}{a:α}(iP:gq I (bQ k enc l) (kG k n z es clock).toList)(dc:jZ (kG k n z es clock) (r8 k n es clock))(bu:aD l n=some a):
  ∃j e,(kG k n z es clock).findIdx? (λe=>(e.born:Int)==(ni k n es clock:Int))=some j∧(kG k n z es clock)[j]?=some e∧e.key=.int k n∧
   ∀(b:α) (aA:Value),bc I (enc b) aA→gq I (bQ k enc (bG l n b)) ((kG k n z es clock).modify j λe=>{e with val:=aA}).toList:=by
 obtain⟨j,aA,cQ,dM,cB,eH,i6,pl⟩:=EC n l _ 0 a iP bu;have U:cB.born=ni k n es clock:=by
  cases bm:Instr.findNow (.int k) (.int k n) es.toList 0 with
  |none=>
   have dO:ni k n es clock=clock:=by unfold ni;rw[bm]
   have ep:kG k n z es clock=es.push ⟨.int k n,z,clock⟩:=by unfold kG;rw[bm]
   rw[ep]at cQ;exfalso;rw[Array.toList_push]at cQ;have:∀(A B:nM) (i:Nat),Instr.findNow (.int k) (.int k n) A i=none→Instr.findNow (.int k) (.int k n) (A++B) i=none:=by
    intro A B;induction A with
    |nil=>intro i h;cases h
    |cons c A bg=>
     intro i h;simp only[Instr.findNow,cons_append]at h ⊢;cases X:Instr.sameNow (.int k) (.int k n) c.key with
     |none=>rfl
     |some b=>
      cases b with
      |true=>rw[X]at h;cases h
      |false=>rw[X]at h;exact bg (i+1) h
   rw[this _ _ 0 bm]at cQ;cases cQ
  |some q=>
   cases q with
   |none=>
    have dO:ni k n es clock=clock:=by unfold ni;rw[bm]
    have ep:kG k n z es clock=es.push ⟨.int k n,z,clock⟩:=by unfold kG;rw[bm]
    rw[ep,Array.toList_push,Wh _ _ _ _ _ bm]at cQ;have aT:j=es.size:=by
     simp only[Instr.findNow]at cQ;cases X:Instr.sameNow (.int k) (.int k n) (Value.int k n)with
     |none=>rw[X]at cQ;cases cQ
     |some b=>
      cases b with
      |true=>rw[X]at cQ;simp at cQ;omega
      |false=>rw[X]at cQ;cases cQ
    rw[ep,aT]at eH;simp at eH;rw[←eH,dO]
   |some q=>
    obtain⟨hj,v0⟩:=q;have ep:kG k n z es clock=es:=by unfold kG;rw[bm]
    rw[ep,bm]at cQ;have aT:hj=j:=by simp at cQ;omega
    rw[ep]at eH;have dO:ni k n es clock=((es[hj]?).map (·.born)).getD 0:=by unfold ni;rw[bm]
    have:es[j]?=some cB:=by simpa using eH
    rw[dO,aT,this];rfl
 have i1:(kG k n z es clock)[j]?=some cB:=by simpa using eH
 refine⟨j,cB,?_,i1,i6,λb aA hu=>?_⟩
 ·rw[Array.findIdx?_eq_some_iff_getElem];obtain⟨bL,he⟩:=Array.getElem?_eq_some_iff.1 i1;refine⟨bL,by rw[he];simp[U],λi hi=>?_⟩;intro af;have af:(kG k n z es clock)[i].born=ni k n es clock:=by
   have:((kG k n z es clock)[i].born:Int)=(ni k n es clock:Int):=by simpa using af
   omega
  have h1:=dc.1;have:=pairwise_iff_getElem.1 h1 i j (by simp;omega) (by simpa using bL) hi;apply this;simp only[List.getElem_map,Array.getElem_toList];rw[af,he,U]
 ·have:=pl b aA (λe=>{e with key:=.int k n,val:=aA}) hu (λe=>⟨rfl,rfl⟩)
  have oy:((kG k n z es clock).modify j λe=>{e with val:=aA}).toList=(kG k n z es clock).toList.modify j λe=>{e with key:=.int k n,val:=aA}:=by
   rw[Array.toList_modify];apply List.ext_getElem?;intro i;rw[List.getElem?_modify,List.getElem?_modify];by_cases iX:j=i
   ·subst iX;rw[eH];simp[←i6]
   ·simp[iX]
  rw[oy];exact this
def au7{α:Type}{T K E d clock:Nat}{k:IntKind}{x y v:Operand}{n:Int}{es:iT}{z:Value}{a0:α}(l:List (Int×α))(enc:α→Q)(a:α)(h:o.op=.entryStore T x y v)(u:ev x=.dr d)(ag:ev y=.int .i64 (ni k n es clock:Int))(aa:ev v=enc a)(af:(enc a).closed=true)
  (Z:σ.get d=some (.gz (kG k n z es clock) (r8 k n es clock) K E (bQ k enc l))) (bu:aD l n=some a0) :
  h5 G o ev σ [d] [] (λr az=>r=.undef∧az=σ.set d (.map K E (bQ k enc (bG l n a)))):=by
 intro cx I β w aZ an hop;have h1:=hop x (by simp[h,Op.operands]);rw[u]at h1
 have D:=hop y (by simp[h,Op.operands]);rw[ag]at D;have D:=jW D
 have aj:=hop v (by simp[h,Op.operands]);rw[aa]at aj
 have aj:=au.closed _ _ af aj;simp only[au]at h1;obtain⟨h1,qN⟩:=h1;have iR:β d≠.nilFunc:=λe=>by rw[h1,e]at qN;simp[mJ]at qN
 have ai:=an.cw d _ Z;simp only[aY,iR,false_or]at ai;obtain⟨r,ak,ar,aM,aK,be,bJ⟩:=ai;have dm:=xD (P:=G.P) ar
 have ig:∀aX:Obj,(setObj r aX).run G.P w=.ok () {w with heap:=w.heap.setIfInBounds r aX}:=λaX=>by
  have:=hC ar;simp[setObj,Sem.run,ar]
 have nk:aZ x=.map (some r):=by rw[h1,ak]
 obtain⟨j,e,m1,m2,sR,zC⟩:=ahd aM bJ bu
 have eY:(execOp aZ o).run G.P w=.ok .skip {w with heap:=w.heap.setIfInBounds r (.map ((kG k n z es clock).modify j λe=>{e with val:=aZ v}) (r8 k n es clock))}:=by
  simp[execOp,h,Instr.entryStore,nk,D,dm,asInt,asIntOf,m1,ig]
 rw[eY];refine⟨.undef,_,I,β,⟨rfl,rfl⟩,by simp[au,bc],?_,cn.refl I,λ_ _=>rfl,λx u=>by rw[asB,if_neg (by simpa using u)]⟩;have fL:b1 (β d)=some r:=by rw[ak];rfl
 refine an.turn (d:=d) (asJ w r _) be (λx u=>by rw[asB,if_neg u]) (λx u X e=>an.dA x d X (by rw[Z];rfl) u r e (j8 fL)) (cn.refl I) (λ_ _ _=>rfl)
  (λo v aa=>by rw[aK o]at aa;cases aa) (aK none) (λ_ _=>rfl) (.inr rfl) (hp.refl β) (.inl fL) λaX cC=>?_
 rw[asB,if_pos rfl,Z]at cC;injection cC with cC
 subst cC;simp only[aY];exact .inr ⟨r,_,_,ak,by have:=hC ar;simp[Array.getElem?_setIfInBounds,this],zC a (aZ v) aj,aK,be,bJ.modify _ _ λ_=>rfl⟩
end
end
section
open Go.ChangeMaps (setBlock)
section cert
variable {G:ch}{ops:l7}{K:ah→Y→Prop}
def asZ:∀{l:dg} {log Gc:List (Nat×dg)} {env:ah} {σ:Y},fD G ops ⟨false,[],[]⟩ log l env σ K→fD G ops ⟨false,[],[]⟩ Gc l env σ K
 |[],_,_,_,_,h=>h
 |i::l,log,Gc,env,σ,h=>by
  obtain⟨o,ai,h⟩:=h;refine⟨o,ai,?_⟩;rcases h with⟨h1,D,aj⟩|⟨h1,D,dI,R,bN,σ2,aj,a1,bU,dP,fz⟩|⟨h1,D,M,news,Φ,aj,a1,bU,dP,fz⟩|⟨h1,D,aj⟩
  ·exact .inl ⟨h1,D,asZ aj⟩
  ·exact .inr (.inl ⟨h1,D,dI,R,bN,σ2,aj,a1,bU,dP,asZ fz⟩)
  ·exact .inr (.inr (.inl ⟨h1,D,M,news,Φ,aj,(λh=>by cases h),bU,dP,λbN az bV=>asZ (fz bN az bV)⟩))
  ·exact .inr (.inr (.inr ⟨h1,D,asZ aj⟩))
def fD.append{ji:dg}:∀{o9:dg} {log:List (Nat×dg)} {env:ah} {σ:Y},fD G ops ⟨false,[],[]⟩ log o9 env σ (λe s=>fD G ops ⟨false,[],[]⟩ [] ji e s K)→fD G ops ⟨false,[],[]⟩ log (o9++ji) env σ K
 |[],_,_,_,h=>asZ h
 |i::l,log,env,σ,h=>by
  obtain⟨o,ai,h⟩:=h;refine⟨o,ai,?_⟩;rcases h with⟨h1,D,aj⟩|⟨h1,D,dI,R,bN,σ2,aj,a1,bU,dP,fz⟩|⟨h1,D,M,news,Φ,aj,a1,bU,dP,fz⟩|⟨h1,D,aj⟩
  ·exact .inl ⟨h1,D,fD.append aj⟩
  ·exact .inr (.inl ⟨h1,D,dI,R,bN,σ2,aj,a1,bU,dP,fD.append fz⟩)
  ·exact .inr (.inr (.inl ⟨h1,D,M,news,Φ,aj,a1,bU,dP,λbN az bV=>fD.append (fz bN az bV)⟩))
  ·exact .inr (.inr (.inr ⟨h1,D,fD.append aj⟩))
end cert
variable {id:Nat}
def as9{P:Program}{N:Nat}{ids:dg}{bP:g4}{env:ah}{σ:Y}{bq:Exit→ah→Y→Prop}(bb:jT P bP){ops:l7}(n:Nat)(ji:dg)(X:List (Nat×Hint P))(aJ:ah)(dW:Y){o:Oper}{M news:dg}{Φ:Q→Y→Prop}
  (aH:List.range ops.size=List.range n++n::ji) (Z:wz N ops=true) (h1:sW bP ids ops ⟨false,[],[]⟩ ((List.range n).map λi=>(i,hintOf X i)) [] env σ=some (aJ,dW,(List.range n).map λi=>(hintOf X i).exp))
  (ai:ops[n]?=some o) (bu:o.guard=none) (ej:h5 ⟨P,N,ids⟩ o aJ.ev dW M news Φ) (af:aJ.clean news.contains=true) (aR:news.all (λd=>!ids.contains d&&(dW.get d).isNone)=true)
  (k:∀bN az,Φ bN az→∃(ef:List (Nat×Hint P)) (e2:ah) (eg:Y),sW bP ids ops ⟨false,[],[]⟩ (ji.map λi=>(i,hintOf ef i)) [] (aJ.put o.dst bN) az=some (e2,eg,ji.map λi=>(hintOf ef i).exp)∧bq .normal e2 eg):aS ⟨P,N,ids⟩ (.region id ops false) bq env σ:=by
 refine A.region Z ?_;rw[aH]
 have run:∀(X:List (Nat×Hint P)) (l:dg) {K:ah→Y→Prop} {e cB:ah} {s cO:Y},sW bP ids ops ⟨false,[],[]⟩ (l.map λi=>(i,hintOf X i)) [] e s=some (cB,cO,l.map λi=>(hintOf X i).exp)→K cB cO→fD ⟨P,N,ids⟩ ops ⟨false,[],[]⟩ [] l e s K:=λX l K e cB s cO h h8=>by
  have:=xS (N:=N) (K:=K) bb h (by rw[List.map_map];rfl) h8;rw[List.map_map,show((λx:Nat×Hint P=>x.1)∘λi=>(i,hintOf X i))=λi=>i from rfl,List.map_id']at this;exact this
 refine fD.append (run X _ h1 ?_);refine⟨o,ai,.inr (.inr (.inl ⟨?_,(λh=>by cases h),M,news,Φ,ej,(λh=>by cases h),af,λd Z=>?_,λbN az bV=>?_⟩))⟩
 ·simp only[jm,bu]
 ·have:=List.all_eq_true.1 aR d Z;simpa using this
 ·obtain⟨ef,e2,eg,cp,cG⟩:=k bN az bV;exact run ef _ cp cG
section iter
variable {G:ch}{σ:Y}{o:Oper}{ev:Operand→Q}
def Oe{cx:eW}{I:bs}{β:Nat→Value}{w:World}(an:bY G cx I β σ w){b5 clock:Nat}{es:iT}{bH:List (Q×Q)}{seen:oA}(hi:σ.get b5=some (.jP es clock bH seen)){v:Value}(h1:au I β (.ptr b5 0) v):
  ∃r fx,v=.pointer (some ⟨r,0,none⟩)∧b1 (β b5)=some r∧w.heap[r]?=some (.mapIter (some fx) clock seen clock)∧w.heap[fx]?=some (.map es clock)∧I fx none=some (pU es clock)∧gq I bH es.toList∧jZ es clock∧(∀o,I r o=none)∧Place cx r∧β b5=.pointer (some ⟨r,0,none⟩):=by
 simp only[au]at h1;obtain⟨b,h1,D⟩:=h1;have fB:β b5≠.nilFunc:=λe=>by rw[e]at h1;cases h1
 have ai:=an.cw b5 _ hi;simp only[aY,fB,false_or]at ai;obtain⟨r,fx,ak,ar,aM,aK,be,bJ,b8⟩:=ai;have DO:b=r:=by rw[ak]at h1;simpa [b1]using h1.symm
 subst DO;obtain⟨hO,mR,cp,cG⟩:=an.hM fx _ aM;obtain⟨rfl,rfl⟩:=EL cG;exact⟨b,fx,D,h1,ar,cp,aM,aK,be,bJ,b8,ak⟩
def auE{T K E b5:Nat}{x:Operand}{bH:List (Q×Q)}(h:o.op=.range T x)(u:ev x=.dw bH)(aQ:G.P.underlying T=some (.map K E))(hi:G.ids.contains b5=false)(af:σ.clean [b5].contains=true):
  h5 G o ev σ [b5] [b5] (λr az=>r=.ptr b5 0∧∃es clock,az=(b5,.jP es clock bH #[])::σ):=by
 intro cx I β w aZ an hop;have h1:=hop x (by simp[h,Op.operands]);rw[u]at h1
 simp only[au,bc]at h1;obtain⟨fx,es,clock,ak,ar,aM,aK⟩:=h1;obtain⟨hO,mR,cp,cG⟩:=an.hM fx _ ar;obtain⟨rfl,rfl⟩:=EL cG;have eY:(execOp aZ o).run G.P w=.ok (.value (.pointer (some ⟨w.heap.size,0,none⟩))) (w.alloc (.mapIter (some fx) clock #[] clock)):=by
  simp[execOp,h,ak,run_range_map w T K E fx es clock aQ cp]
 rw[eY];have aa:=an.qy (dI:=[b5]) (σ2:=σ) (env:=[]) ⟨λ_ _=>rfl,by simpa using hi,rfl,af,λx u cz n h=>by have:=(asF af x _ h).1;rw[List.contains_iff_mem.2 u]at this;cases this⟩;have U:∀y,y≠b5→g7 (gI β [b5]) b5 (.pointer (some ⟨w.heap.size,0,none⟩)) y=β y:=λy ag=>by rw[g5 _ _ ag];simp[gI,ag]
 have tH:g7 (gI β [b5]) b5 (.pointer (some ⟨w.heap.size,0,none⟩)) b5=.pointer (some ⟨w.heap.size,0,none⟩):=gL _ _ _;refine⟨.ptr b5 0,_,I,g7 (gI β [b5]) b5 (.pointer (some ⟨w.heap.size,0,none⟩)),⟨rfl,es,clock,rfl⟩,?_,?_,cn.refl I,λy ag=>U y (by simpa using ag),λy ag=>by rw[asw,if_neg (Ne.symm (by simpa using ag))]⟩
 ·simp only[au,tH];exact⟨w.heap.size,rfl,rfl⟩
 ·refine aa.turn (d:=b5) (gK.alloc w _) (.inl an.size) (λx u=>by rw[asw,if_neg (Ne.symm u)]) (λx u X e=>by
    obtain⟨aX,X⟩:=Option.isSome_iff_exists.1 X;exact absurd (aa.sL X e) (by omega)) (cn.refl I) (λ_ _ _=>rfl) (λhx dF ob=>by rw[an.iF (Nat.le_refl _)]at ob;cases ob) (an.iF (Nat.le_refl _) none)
   (λx u=>g5 _ _ u) (.inl (by simpa using hi)) (asV (by simp[gI])) (.inl (by rw[tH];rfl)) λaX cC=>?_
  rw[asw,if_pos rfl]at cC;cases cC;simp only[aY,tH];exact .inr ⟨w.heap.size,fx,rfl,heap_alloc_new w _,ar,aM,aK,λo=>an.iF (Nat.le_refl _) o,.inl an.size⟩
def auH{b5 clock:Nat}{x:Operand}{es:iT}{bH:List (Q×Q)}{seen:oA}(h:o.op=.next x false)(u:ev x=.ptr b5 0)(hi:σ.get b5=some (.jP es clock bH seen)):
  h5 G o ev σ [b5] [] (λr az=>((leftOf es seen).size=0∧r=.cI [.bool false]∧az=σ)∨∃e∈(leftOf es seen).toList,r=.cI [.bool true,.e9,.e9]∧az=σ.set b5 (.jP es clock bH (seen.push e.born))):=by
 intro cx I β w aZ an hop;have h1:=hop x (by simp[h,Op.operands]);rw[u]at h1
 obtain⟨b,fx,D,fL,aM,dM,bJ,b8,eH,aK,be,ak⟩:=Oe an hi h1;rcases run_next_at (P:=G.P) w o.type b fx clock clock seen es clock aM dM eH.2 (Nat.le_refl _)with⟨dW,eg⟩|⟨e,dW,hn,eg,s3⟩
 ·have eY:(execOp aZ o).run G.P w=.ok (.value (.tuple #[.bool false])) w:=by simp[execOp,h,D,eg]
  rw[eY];refine⟨.cI [.bool false],σ,I,β,.inl ⟨dW,rfl,rfl⟩,?_,an,cn.refl I,λ_ _=>rfl,λ_ _=>rfl⟩;simp[au,bW,bc]
 ·have eY:(execOp aZ o).run G.P w=.ok (.value (.tuple #[.bool true,e.key,e.val])) (setBlock hn b (.mapIter (some fx) clock (seen.push e.born) clock)):=by simp[execOp,h,D,s3]
  rw[eY];refine⟨.cI [.bool true,.e9,.e9],σ.set b5 (.jP es clock bH (seen.push e.born)),I,β,.inr ⟨e,dW,rfl,rfl⟩,?_,?_,cn.refl I,λ_ _=>rfl,λy ag=>by rw[asB,if_neg (by simpa using ag)]⟩
  ·simp only[au,bW,bc];exact⟨_,rfl,_,_,rfl,rfl,_,_,rfl,trivial,_,_,rfl,trivial,rfl⟩
  ·have hk:gK w (setBlock hn b (.mapIter (some fx) clock (seen.push e.born) clock)) b:=by
    rcases eg with rfl|rfl
    ·exact asJ _ b _
    ·exact gK.drew (asJ _ b _)
   have cA:(setBlock hn b (.mapIter (some fx) clock (seen.push e.born) clock)).heap[b]?=some (.mapIter (some fx) clock (seen.push e.born) clock):=by
    have bL:=hC aM;have:hn.heap=w.heap:=by rcases eg with rfl|rfl<;>rfl
    simp[setBlock,this,Array.getElem?_setIfInBounds,bL]
   refine an.turn (d:=b5) hk be (λx u=>by rw[asB,if_neg u]) (λx u X cB=>an.dA x b5 X (by rw[hi];rfl) u b cB (j8 fL)) (cn.refl I) (λ_ _ _=>rfl)
    (λo v aa=>by rw[aK o]at aa;cases aa) (aK none) (λ_ _=>rfl) (.inr rfl) (hp.refl β) (.inl fL) λaX cC=>?_
   rw[asB,if_pos rfl,hi]at cC;injection cC with cC
   subst cC;simp only[aY];exact .inr ⟨b,fx,ak,cA,bJ,b8,eH,aK,be⟩
def at2{α:Type}{b5 clock i:Nat}{k:IntKind}{x:Operand}{es:iT}{seen:oA}{e:MapEntry}{n:Int}{v:α}(l:List (Int×α))(enc:α→Q)(h:o.op=.entry x)(u:ev x=.ptr b5 0)(hi:σ.get b5=some (.jP es clock (bQ k enc l) (seen.push e.born)))
  (he:es[i]?=some e) (aR:l[i]?=some (n,v)):Yields G o ev σ [] [b5] (.cI [.int k n,enc v]):=
 .pure λaz cx I β w aZ cf an hop=>by
  have h1:=hop x (by simp[h,Op.operands]);rw[u]at h1
  obtain⟨b,fx,D,fL,aM,dM,bJ,b8,eH,aK,be,ak⟩:=Oe an (by rw[cf b5 (by simp)];exact hi) h1;have sC:e∈es.toList:=by
   have:es.toList[i]?=some e:=by simpa using he
   exact List.mem_of_getElem? this
  have eY:(execOp aZ o).run G.P w=.ok (.value (.tuple #[e.key,e.val])) w:=by simp[execOp,h,D,run_entry_at (P:=G.P) w b fx clock seen es clock e aM dM sC eH.1]
  refine⟨_,eY,?_⟩;obtain⟨dW,eg⟩:=IF b8 (i:=i) (a:=.int k n) (c:=enc v) (e:=e) (by simp[bQ,aR]) (by simpa using he);simp only[au,bW];exact⟨_,rfl,e.key,[e.val],rfl,dW,e.val,[],rfl,bc.rep β _ _ eg,rfl⟩
end iter
def P3{I:bs}:∀{bH:List (Q×Q)} {es:nM},gq I bH es→es.length=bH.length
 |[],_,h=>by simp only[gq]at h;rw[h];rfl
 |(k,v)::r,_,h=>by
  simp only[gq]at h;obtain⟨e,bI,rfl,_,_,aj⟩:=h;simp[P3 aj]
def Y1{A:Type}[DecidableEq A]{a b:List A}(h:a.Nodup)(X:∀x∈a,x∈b):a.length≤b.length:=by
 induction a generalizing b with
 |nil=>simp
 |cons x a bg=>
  rw[nodup_cons]at h;have u:=X x (by simp);have:=bg (b:=b.erase x) h.2 λy ag=>(List.mem_erase_of_ne (λe=>h.1 (by rw[←e];exact ag))).2 (X y (by simp[ag]));rw[length_erase_of_mem u]at this;have:=length_pos_of_mem u;simp only[length_cons];omega
variable {S α:Type}{b b5 clock it t1 t2:Nat}{es:iT}
def auN{ia:Type}{G:ch}{σ:Y}{env:ah}{bq:Exit→ah→Y→Prop}{vL:ia→Q}{enc:α→Q}{l:List (ia×α)}{hI fW:Oper}{y:Code}
  (Inv:List (ia×α)→S→Prop) (lV:S) (fI:S→ah) (fV:oA→S→Y) (oa:hI.op=.next (.tmp it) false∧hI.dst=some t1∧hI.guard=none) (k1:fW.op=.extract (.tmp t1) 0∧fW.dst=some t2∧fW.guard=none) (Z:wz G.N #[hI,fW]=true)
  (bM:Inv [] lV) (hit:∀g,(fI g).get it=.ptr b5 0) (ze:∀seen g,(fV seen g).get b5=some (.jP es clock (Kl vL enc l) seen))
  (ig:∀seen g cO,(fV seen g).set b5 (.jP es clock (Kl vL enc l) cO)=fV cO g) (an:cr G env σ (fI lV) (fV #[] lV))
  (body:∀(seen:oA) (e:MapEntry) (i:Nat) (n:ia) (v:α) (p:List (ia×α)) (g:S),es[i]?=some e→l[i]?=some (n,v)→p.length<l.length→Inv p g→
   aS G y (qX (λgy az=>∃ih,Inv (p++[(n,v)]) ih∧cr G gy az (fI ih) (fV (seen.push e.born) ih)) bq) ((t2,.bool true)::(t1,.cI [.bool true,.e9,.e9])::fI g) (fV (seen.push e.born) g))
  (cL:∀seen p g,p.Perm l→Inv p g→bq (.exit b) ((t2,.bool false)::(t1,.cI [.bool false])::fI g) (fV seen g)) :
  aS G (.loop (.seq (.region id #[hI,fW] false) (.seq (.cond (.tmp t2) .skip (.exit b)) y))) bq env σ:=by
 refine A.loop (α:=oA×S) (λs=>fI s.2) (λs=>fV s.1 s.2) (λs=>∃p:dg,p.Nodup∧(∀i∈p,i<l.length)∧(∀(i:Nat) (e:MapEntry),es[i]?=some e→(s.1.contains e.born=true↔i∈p))∧Inv (jK l p) s.2)
  (λs=>(leftOf es s.1).size) (#[],lV) ⟨[],nodup_nil,by simp,by simp,bM⟩ an ?_
 rintro⟨seen,g⟩ ⟨p,cQ,dM,eH,i6⟩;refine atQ (F:=es.size=l.length∧(es.toList.map (·.born)).Nodup) (λcx I β a w kg aQ=>?_) λ⟨f1,f2⟩=>?_
 ·have h1:=aQ it;rw[show(fI (seen,g).2).get it=.ptr b5 0 from hit g]at h1;obtain⟨b,fx,D,fL,aM,dM,bJ,b8,eH,aK,be,ak⟩:=Oe kg (ze seen g) h1;have:=P3 b8;exact⟨by simpa [Kl]using this,eH.1⟩
 have uM:ah.get ((t2,.bool true)::(t1,.cI [.bool true,.e9,.e9])::fI g) t2=.bool true:=by rw[asI,if_pos rfl]
 have xk:ah.get ((t2,.bool false)::(t1,.cI [.bool false])::fI g) t2=.bool false:=by rw[asI,if_pos rfl]
 refine A.seq (A.region Z ?_);show fD G #[hI,fW] ⟨false,[],[]⟩ [] [0,1] (fI g) (fV seen g) _;refine⟨hI,rfl,.inr (.inr (.inl ⟨by simp only[jm,oa.2.2],by simp,[b5],[],_,auH (x:=.tmp it) oa.1 (hit g) (ze seen g),by simp,as2 _,by simp,λbN az rH=>?_⟩))⟩
 have ext:∀(vs:List Q) (eM:Bool) (az:Y) (K:ah→Y→Prop),vs[0]?=some (.bool eM)→K ((t2,.bool eM)::(t1,.cI vs)::fI g) az→fD G #[hI,fW] ⟨false,[],[]⟩ [] [1] ((fI g).put hI.dst (.cI vs)) az K:=λvs eM az K aa h8=>by
  refine⟨fW,rfl,.inr (.inl ⟨by simp only[jm,k1.2.2],by simp,[],[],.bool eM,az,as3 _ _ _,by simp,by simp,bK.extract (x:=.tmp t1) k1.1 (by rw[oa.2.1];show ah.get _ _=_;rw[ah.put,asI,if_pos rfl]) aa,?_⟩)⟩;rw[oa.2.1,k1.2.1];exact h8
 rcases rH with⟨hy,rfl,rfl⟩|⟨e,hy,rfl,rfl⟩
 ·refine ext _ false _ _ rfl ?_
  have ny:∀i,i∈p↔i<l.length:=λi=>⟨dM i,λbL=>by
   have xx:i<es.size:=by omega
   refine(eH i es[i] (Array.getElem?_eq_getElem xx)).1 ?_;by_cases af:seen.contains es[i].born=true
   ·exact af
   ·exfalso;have:es[i]∈leftOf es seen:=by
     unfold leftOf;rw[Array.mem_filter];exact⟨Array.getElem_mem xx,by simpa using af⟩
    have:leftOf es seen≠#[]:=λe=>by rw[e]at this;simp at this
    exact this (Array.eq_empty_of_size_eq_zero hy)⟩
  have aC:(jK l p).Perm l:=by
   have:=(Ib cQ ny).filterMap λi=>l[i]?;have e2:=Iy l;unfold jK at e2 ⊢
   rwa [e2]at this
  refine A.seq (A.cond (b:=false) xk (λh=>by cases h) λ_=>A.exit ?_);exact cL seen _ g aC i6
 ·refine ext _ true _ _ rfl ?_;rw[ig seen g];obtain⟨dK,fS⟩:=mem_left hy;obtain⟨i,hE⟩:=List.getElem?_of_mem dK;have hE:es[i]?=some e:=by simpa using hE
  have yY:i<l.length:=by have:=(Array.getElem?_eq_some_iff.1 hE).1;omega
  have mX:i∉p:=λh=>by
   have:=(eH i e hE).2 h;rw[fS]at this;cases this
  have A6:l[i]?=some (l[i].1,l[i].2):=List.getElem?_eq_getElem yY;have fR:(p++[i]).Nodup:=by
   rw[nodup_append];exact⟨cQ,by simp,λa ay c af=>by simp only[List.mem_singleton]at af;subst af;exact λe=>mX (e▸ay)⟩
  have vR:∀j∈p++[i],j<l.length:=λj aT=>by
   rcases List.mem_append.1 aT with aT|aT
   ·exact dM j aT
   ·rw[List.mem_singleton.1 aT];exact yY
  have aJ:jK l (p++[i])=jK l p++[(l[i].1,l[i].2)]:=by
   unfold jK;rw[List.filterMap_append];simp[filterMap_cons,List.getElem?_eq_getElem yY]
  refine A.seq (A.cond (b:=true) uM (λ_=>A.skip ?_) λh=>by cases h);refine(body seen e i l[i].1 l[i].2 _ g hE A6 (by
   have h1:=Y1 fR (b:=List.range l.length) λj aT=>List.mem_range.2 (vR j aT);have D:(jK l p).length≤p.length:=length_filterMap_le ..;rw[length_range,length_append]at h1;simp only[length_cons,length_nil]at h1;omega) i6).mono λex gy az bV=>?_
  cases ex with
  |normal=>
   obtain⟨ih,Vt,DZ⟩:=bV;refine⟨(seen.push e.born,ih),⟨p++[i],fR,vR,λj cB aT=>?_,by rw[aJ];exact Vt⟩,left_shrinks es seen e hy,DZ⟩;rw[contains_push,Bool.or_eq_true,beq_iff_eq,eH j cB aT,List.mem_append,List.mem_singleton];constructor
   ·rintro(h|h)
    ·exact .inl h
    ·right;have pL:es.toList[j]?=some cB:=by simpa using aT
     have rK:es.toList[i]?=some e:=by simpa using hE
     have nB:=(List.getElem?_eq_some_iff.1 pL).1;have xu:=(List.getElem?_eq_some_iff.1 rK).1;have cp:=(List.getElem?_eq_some_iff.1 pL).2;have cG:=(List.getElem?_eq_some_iff.1 rK).2;have pw:=pairwise_iff_getElem.1 f2;rcases Nat.lt_trichotomy j i with q|q|q
     ·refine absurd ?_ (pw j i (by simpa using nB) (by simpa using xu) q);rw[List.getElem_map,List.getElem_map,cp,cG,h]
     ·exact q
     ·refine absurd ?_ (pw i j (by simpa using xu) (by simpa using nB) q);rw[List.getElem_map,List.getElem_map,cp,cG,h]
   ·rintro(h|h)
    ·exact .inl h
    ·subst h;rw[hE]at aT;cases aT;exact .inr rfl
  |_=>exact bV
def auM{G:ch}{σ:Y}{env:ah}{bq:Exit→ah→Y→Prop}{k:IntKind}{enc:α→Q}{l:List (Int×α)}{hI fW:Oper}{y:Code}
  (Inv:List (Int×α)→S→Prop) (lV:S) (fI:S→ah) (fV:oA→S→Y) (oa:hI.op=.next (.tmp it) false∧hI.dst=some t1∧hI.guard=none) (k1:fW.op=.extract (.tmp t1) 0∧fW.dst=some t2∧fW.guard=none) (Z:wz G.N #[hI,fW]=true)
  (bM:Inv [] lV) (hit:∀g,(fI g).get it=.ptr b5 0) (ze:∀seen g,(fV seen g).get b5=some (.jP es clock (bQ k enc l) seen))
  (ig:∀seen g cO,(fV seen g).set b5 (.jP es clock (bQ k enc l) cO)=fV cO g) (an:cr G env σ (fI lV) (fV #[] lV))
  (body:∀(seen:oA) (e:MapEntry) (i:Nat) (n:Int) (v:α) (p:List (Int×α)) (g:S),es[i]?=some e→l[i]?=some (n,v)→Inv p g→
   aS G y (qX (λgy az=>∃ih,Inv (p++[(n,v)]) ih∧cr G gy az (fI ih) (fV (seen.push e.born) ih)) bq) ((t2,.bool true)::(t1,.cI [.bool true,.e9,.e9])::fI g) (fV (seen.push e.born) g))
  (cL:∀seen p g,p.Perm l→Inv p g→bq (.exit b) ((t2,.bool false)::(t1,.cI [.bool false])::fI g) (fV seen g)) :
  aS G (.loop (.seq (.region id #[hI,fW] false) (.seq (.cond (.tmp t2) .skip (.exit b)) y))) bq env σ:=
 auN (vL:=λn=>.int k n) Inv lV fI fV oa k1 Z bM hit ze ig an (λseen e i n v p g h1 D _ aj=>body seen e i n v p g h1 D aj) cL
end
section
section
variable {P:Program}
def Jc(bn:Nat)(op:Op)(env:ah)(σ:Y):Option (c7×cZ):=match op with
 |.indexAddr T x y=>(match env.cW x with
  |some (.own d)=>(match env.cW y with
   |some (.int k i)=>(match σ.get d with
    |some (.gP h3 xs t)=>bif Nat.beq T bn then some (.y [d] (.ptr d i.toNat),([.int .i64 i],[(0,.gP 0 xs 0)]))else none
    |_=>none)
   |_=>none)
  |_=>none)
 |_=>none
def aea{bn E:Nat}{xs:List (List Q)}{i:Int}(aQ:kV P bn E 1)(hi:0≤i∧i<(xs.length:Int)+1){o:Oper}{N:Nat}{ids:dg}{env:ah}{σ:Y}{s:c7}{aX:cZ}
  (h:Jc bn o.op env σ=some (s,aX)) (he:aX=([.int .i64 i],[(0,.gP 0 xs 0)])):fP ⟨P,N,ids⟩ o env σ s:=by
 cases ai:o.op<;>rw[ai]at h
 case indexAddr T x y=>
  simp only[Jc]at h;split at h
  ·rename_i d u;split at h
   ·rename_i k G7 ag;split at h
    ·rename_i h3 l6 t Z;cases af:Nat.beq T bn with
     |false=>rw[af]at h;cases h
     |true=>
      rw[af]at h;have:=Nat.eq_of_beq_eq_true af;subst this;cases h;simp only[Prod.mk.injEq,List.cons.injEq,Q.int.injEq,cc.gP.injEq,and_true,true_and]at he;obtain⟨rfl,rfl⟩:=he;exact at6 ai (asv u) (asv ag) Z aQ hi
    ·cases h
   ·cases h
  ·cases h
 all_goals (simp only[Jc]at h;cases h)
def Be{bn E:Nat}{xs:List (List Q)}{i:Int}(aQ:kV P bn E 1)(hi:0≤i∧i<(xs.length:Int)+1):Hint P:=
 .gs false ([.int .i64 i],[(0,.gP 0 xs 0)]) (λ_=>Jc bn) λ_ _ _ _ _ _ _ h he=>aea aQ hi h he
def Jd(bn:Nat)(op:Op)(env:ah)(σ:Y):Option (c7×cZ):=match op with
 |.load T x=>(match env.cW x with
  |some (.ptr d p)=>(match σ.get d with
   |some (.gP h3 xs t)=>(match σ.get t with
    |some jJ=>bif Nat.beq T bn&&jJ.Gb then some (.y [d,t] (.dr t),([.ptr 0 p],[(0,.gP 0 xs 0)]))else none
    |_=>none)
   |_=>none)
  |_=>none)
 |_=>none
def aeb{bn p:Nat}{xs:List (List Q)}(aQ:dL P bn 1 false)(aC:p=xs.length){o:Oper}{N:Nat}{ids:dg}{env:ah}{σ:Y}{s:c7}{aX:cZ}
  (h:Jd bn o.op env σ=some (s,aX)) (he:aX=([.ptr 0 p],[(0,.gP 0 xs 0)])):fP ⟨P,N,ids⟩ o env σ s:=by
 cases ai:o.op<;>rw[ai]at h
 case load T x=>
  simp only[Jd]at h;split at h
  ·rename_i d sg u;split at h
   ·rename_i h3 l6 t Z;split at h
    ·rename_i jJ bE;cases af:(Nat.beq T bn&&jJ.Gb)with
     |false=>rw[af]at h;cases h
     |true=>
      rw[af]at h;simp only[Bool.and_eq_true]at af;have:=Nat.eq_of_beq_eq_true af.1;subst this;cases h;simp only[Prod.mk.injEq,List.cons.injEq,Q.ptr.injEq,cc.gP.injEq,and_true,true_and]at he;obtain⟨rfl,rfl⟩:=he;exact at0 ai (asv u) Z aC bE af.2 aQ
    ·cases h
   ·cases h
  ·cases h
 all_goals (simp only[Jd]at h;cases h)
def o3{bn p:Nat}{xs:List (List Q)}(aQ:dL P bn 1 false)(aC:p=xs.length):Hint P:=
 .gs false ([.ptr 0 p],[(0,.gP 0 xs 0)]) (λ_=>Jd bn) λ_ _ _ _ _ _ _ h he=>aeb aQ aC h he
def Je(bn:Nat)(a:Q)(op:Op)(env:ah)(σ:Y):Option (c7×cZ):=match op with
 |.load T x=>(match env.cW x with
  |some (.ptr d p)=>(match σ.get d with
   |some (.gP h3 xs t)=>bif Nat.beq T bn then some (.y [d] a,([.ptr 0 p],[(0,.gP 0 xs 0)]))else none
   |_=>none)
  |_=>none)
 |_=>none
def aec{bn p:Nat}{xs:List (List Q)}{a:Q}(aQ:dL P bn 1 false)(aC:xs[p]?=some [a]){o:Oper}{N:Nat}{ids:dg}{env:ah}{σ:Y}{s:c7}{aX:cZ}
  (h:Je bn a o.op env σ=some (s,aX)) (he:aX=([.ptr 0 p],[(0,.gP 0 xs 0)])):fP ⟨P,N,ids⟩ o env σ s:=by
 cases ai:o.op<;>rw[ai]at h
 case load T x=>
  simp only[Je]at h;split at h
  ·rename_i d sg u;split at h
   ·rename_i h3 l6 t Z;cases af:Nat.beq T bn with
    |false=>rw[af]at h;cases h
    |true=>
     rw[af]at h;have:=Nat.eq_of_beq_eq_true af;subst this;cases h;simp only[Prod.mk.injEq,List.cons.injEq,Q.ptr.injEq,cc.gP.injEq,and_true,true_and]at he;obtain⟨rfl,rfl⟩:=he;exact at1 ai (asv u) Z aC aQ
   ·cases h
  ·cases h
 all_goals (simp only[Je]at h;cases h)
def VE{bn p:Nat}{xs:List (List Q)}{a:Q}(aQ:dL P bn 1 false)(aC:xs[p]?=some [a]):Hint P:=
 .gs false ([.ptr 0 p],[(0,.gP 0 xs 0)]) (λ_=>Je bn a) λ_ _ _ _ _ _ _ h he=>aec aQ aC h he
def Jb(bn e4 d2:Nat)(ids:dg)(op:Op)(env:ah)(σ:Y):Option (c7×cZ):=match op with
 |.call c=>(match c.callee with
  |.builtin b=>(match b with
   |.append=>(match c.args.toList with
    |[s,x]=>(match c.argTypes.toList with
     |[T,aV]=>(match env.cW s with
      |some (.own d)=>(match σ.get d with
       |some (.slice h3 1 xs 0 c5)=>(match env.cW x with
        |some (.fR (.AH 1) mA)=>(match σ.get mA with
         |some (.cells Az [.dr t])=>bif Nat.beq T bn&&Nat.beq aV bn&&Nat.beq h3 e4&&!ids.contains d2&&(σ.minus [d]).clean [d2].contains&&!Nat.beq mA d&&!Nat.beq t d then
           some (.e [d,d2] [d2] (.own d2) ((d2,.gP h3 xs t)::σ.minus [d]),([],[(0,.gP 0 xs 0)]))else none
         |_=>none)
        |_=>none)
       |_=>none)
      |_=>none)
     |_=>none)
    |_=>none)
   |_=>none)
  |_=>none)
 |_=>none
def aed{bn e4 bytes d2:Nat}{xs:List (List Q)}(eo:kR P bn e4 1 bytes)(U:(xs.length+1)*bytes≤140737488355328)(qg:xs.length+1≤maxLen){o:Oper}{N:Nat}{ids:dg}{env:ah}{σ:Y}{s:c7}{aX:cZ}
  (h:Jb bn e4 d2 ids o.op env σ=some (s,aX)) (he:aX=([],[(0,.gP 0 xs 0)])):fP ⟨P,N,ids⟩ o env σ s:=by
 cases ai:o.op<;>rw[ai]at h
 case call c=>
  obtain⟨cl,args,tys⟩:=c;simp only[Jb]at h;split at h
  ·rename_i b;split at h
   ·split at h
    ·rename_i dW x lX;have:args=#[dW,x]:=Array.toList_inj.1 (by simpa using lX);subst this;split at h
     ·rename_i T aV An;have:tys=#[T,aV]:=Array.toList_inj.1 (by simpa using An);subst this;split at h
      ·rename_i d X;split at h
       ·rename_i h3 l6 c5 Z;split at h
        ·rename_i mA u;split at h
         ·rename_i Az t fM;cases af:(Nat.beq T bn&&Nat.beq aV bn&&Nat.beq h3 e4&&!ids.contains d2&&(σ.minus [d]).clean [d2].contains&&!Nat.beq mA d&&!Nat.beq t d)with
          |false=>rw[af]at h;cases h
          |true=>
           rw[af]at h;simp only[Bool.and_eq_true,Bool.not_eq_true']at af;obtain⟨⟨⟨⟨⟨⟨bl,b2⟩,c9⟩,e3⟩,gm⟩,hT⟩,jc⟩:=af;have:=Nat.eq_of_beq_eq_true bl;subst this
           have:=Nat.eq_of_beq_eq_true b2;subst this
           have:=Nat.eq_of_beq_eq_true c9;subst this
           cases h;simp only[Prod.mk.injEq,List.cons.injEq,cc.gP.injEq,and_true,true_and]at he;subst he;exact⟨auB ai (asv X) Z (asv u) fM eo rfl U qg e3 gm (Nat.ne_of_beq_eq_false hT) (Nat.ne_of_beq_eq_false jc),by simp only[all_cons,all_nil,e3];rfl⟩
         ·cases h
        ·cases h
       ·cases h
      ·cases h
     ·cases h
    ·cases h
   ·cases h
  ·cases h
 all_goals (simp only[Jb]at h;cases h)
def VD{bn e4 bytes:Nat}(d2:Nat){xs:List (List Q)}(eo:kR P bn e4 1 bytes)(U:(xs.length+1)*bytes≤140737488355328)(qg:xs.length+1≤maxLen):Hint P:=
 .gs true ([],[(0,.gP 0 xs 0)]) (Jb bn e4 d2) λ_ _ _ _ _ _ _ h he=>aed eo U qg h he
def HJ{α:Type}(bn fE e4:Nat)(k:IntKind)(n:Int)(z:Value)(l:List (Int×α))(enc:α→Q)(rj:α)(es:iT)(clock:Nat)(op:Op)(env:ah)(σ:Y):Option (c7×cZ):=match op with
 |.mapEntry T x y=>(match env.cW x with
  |some (.dr d)=>(match env.cW y with
   |some (.int dS iE)=>(match σ.get d with
    |some (.gz hO c K E bH)=>bif Nat.beq T bn&&Nat.beq K fE&&Nat.beq E e4 then some (.e [d] [] (.cI [.e9,.int .i64 (ni k n es clock:Int)]) (σ.set d (.gz (kG k n z es clock) (r8 k n es clock) K E (bQ k enc (bG l n ((aD l n).getD rj))))),
      ([.dw bH,.int dS iE],[(0,.gz hO c 0 0 [])]))else none
    |_=>none)
   |_=>none)
  |_=>none)
 |_=>none
def aee{α:Type}{bn fE e4:Nat}{k:IntKind}{n:Int}{z:Value}{l:List (Int×α)}{enc:α→Q}{rj:α}{es:iT}{clock:Nat}(aQ:kF P bn fE e4 k)(hz:∀w,(zeroValue e4).run P w=.ok z w)(D7:∀I,bc I (enc rj) z){o:Oper}{N:Nat}{ids:dg}{env:ah}{σ:Y}{s:c7}{aX:cZ}
  (h:HJ bn fE e4 k n z l enc rj es clock o.op env σ=some (s,aX)) (he:aX=([.dw (bQ k enc l),.int k n],[(0,.gz es clock 0 0 [])])):fP ⟨P,N,ids⟩ o env σ s:=by
 cases ai:o.op<;>rw[ai]at h
 case mapEntry T x y=>
  simp only[HJ]at h;split at h
  ·rename_i d u;split at h
   ·rename_i dS iE ag;split at h
    ·rename_i hO c K E bH Z;cases af:(Nat.beq T bn&&Nat.beq K fE&&Nat.beq E e4)with
     |false=>rw[af]at h;cases h
     |true=>
      rw[af]at h;simp only[Bool.and_eq_true]at af;obtain⟨⟨bl,b2⟩,c9⟩:=af;have:=Nat.eq_of_beq_eq_true bl;subst this
      have:=Nat.eq_of_beq_eq_true b2;subst this
      have:=Nat.eq_of_beq_eq_true c9;subst this
      cases h;simp only[Prod.mk.injEq,List.cons.injEq,Q.dw.injEq,Q.int.injEq,cc.gz.injEq,and_true,true_and]at he;obtain⟨⟨rfl,rfl,rfl⟩,rfl,rfl⟩:=he;exact⟨au8 l enc rj ai (asv u) (asv ag) Z aQ hz D7,rfl⟩
    ·cases h
   ·cases h
  ·cases h
 all_goals (simp only[HJ]at h;cases h)
def Vk{α:Type}{bn fE e4:Nat}{k:IntKind}{z:Value}(n:Int)(l:List (Int×α))(enc:α→Q)(rj:α)(es:iT)(clock:Nat)(aQ:kF P bn fE e4 k)(hz:∀w,(zeroValue e4).run P w=.ok z w)(D7:∀I,bc I (enc rj) z):Hint P:=
 .gs true ([.dw (bQ k enc l),.int k n],[(0,.gz es clock 0 0 [])]) (λ_=>HJ bn fE e4 k n z l enc rj es clock) λ_ _ _ _ _ _ _ h he=>aee aQ hz D7 h he
def Gx{α:Type}(k:IntKind)(n:Int)(l:List (Int×α))(enc:α→Q)(a:α)(op:Op)(env:ah)(σ:Y):Option (c7×cZ):=match op with
 |.entryStore T x y v=>(match env.cW x with
  |some (.dr d)=>(match env.cW y with
   |some (.int jx b)=>(match env.cW v with
    |some bN=>(match σ.get d with
     |some (.gz es c K E bH)=>some (.e [d] [] .undef (σ.set d (.map K E (bQ k enc (bG l n a)))),([.dw bH,.int jx b,bN],[(0,.gz es c 0 0 [])]))
     |_=>none)
    |_=>none)
   |_=>none)
  |_=>none)
 |_=>none
def aef{α:Type}{k:IntKind}{n:Int}{z:Value}{l:List (Int×α)}{enc:α→Q}{a a0:α}{es:iT}{clock:Nat}(bu:aD l n=some a0)(af:(enc a).closed=true){o:Oper}{N:Nat}{ids:dg}{env:ah}{σ:Y}{s:c7}{aX:cZ}
  (h:Gx k n l enc a o.op env σ=some (s,aX)) (he:aX=([.dw (bQ k enc l),.int .i64 (ni k n es clock:Int),enc a],[(0,.gz (kG k n z es clock) (r8 k n es clock) 0 0 [])])):fP ⟨P,N,ids⟩ o env σ s:=by
 cases ai:o.op<;>rw[ai]at h
 case entryStore T x y v=>
  simp only[Gx]at h;split at h
  ·rename_i d u;split at h
   ·rename_i jx b ag;split at h
    ·rename_i bN aa;split at h
     ·rename_i hO c K E bH Z;cases h;simp only[Prod.mk.injEq,List.cons.injEq,Q.dw.injEq,Q.int.injEq,cc.gz.injEq,and_true,true_and]at he;obtain⟨⟨rfl,⟨rfl,rfl⟩,rfl⟩,rfl,rfl⟩:=he;exact⟨au7 l enc a ai (asv u) (asv ag) (asv aa) af Z bu,rfl⟩
     ·cases h
    ·cases h
   ·cases h
  ·cases h
 all_goals (simp only[Gx]at h;cases h)
def jt{α:Type}{k:IntKind}{a0:α}(n:Int)(z:Value)(l:List (Int×α))(enc:α→Q)(a:α)(es:iT)(clock:Nat)(bu:aD l n=some a0)(af:(enc a).closed=true):Hint P:=
 .gs true ([.dw (bQ k enc l),.int .i64 (ni k n es clock:Int),enc a],[(0,.gz (kG k n z es clock) (r8 k n es clock) 0 0 [])]) (λ_=>Gx k n l enc a) λ_ _ _ _ _ _ _ h he=>aef (z:=z) bu af h he
def Gy(b5:Nat)(a:Q)(op:Op)(env:ah)(σ:Y):Option (c7×cZ):=match op with
 |.entry x=>(match env.cW x with
  |some (.ptr uG 0)=>(match σ.get b5 with
   |some (.jP es c bH seen)=>bif Nat.beq uG b5 then some (.y [b5] a,([.dw bH],[(0,.jP es c [] seen)]))else none
   |_=>none)
  |_=>none)
 |_=>none
def aeg{α:Type}{b5 clock i:Nat}{k:IntKind}{es:iT}{seen:oA}{e:MapEntry}{n:Int}{v:α}{l:List (Int×α)}{enc:α→Q}(iP:es[i]?=some e)(aH:l[i]?=some (n,v)){o:Oper}{N:Nat}{ids:dg}{env:ah}{σ:Y}{s:c7}{aX:cZ}
  (h:Gy b5 (.cI [.int k n,enc v]) o.op env σ=some (s,aX)) (he:aX=([.dw (bQ k enc l)],[(0,.jP es clock [] (seen.push e.born))])):fP ⟨P,N,ids⟩ o env σ s:=by
 cases ai:o.op<;>rw[ai]at h
 case entry x=>
  simp only[Gy]at h;split at h
  ·rename_i uG u;split at h
   ·rename_i hO c bH arR Z;cases U:Nat.beq uG b5 with
    |false=>rw[U]at h;cases h
    |true=>
     rw[U]at h;have:=Nat.eq_of_beq_eq_true U;subst this;cases h;simp only[Prod.mk.injEq,List.cons.injEq,Q.dw.injEq,cc.jP.injEq,and_true,true_and]at he;obtain⟨rfl,rfl,rfl,rfl⟩:=he;exact at2 l enc ai (asv u) Z iP aH
   ·cases h
  ·cases h
 all_goals (simp only[Gy]at h;cases h)
def D5{α:Type}{es:iT}{i:Nat}{e:MapEntry}{n:Int}{v:α}{l:List (Int×α)}(b5 clock:Nat)(k:IntKind)(seen:oA)(enc:α→Q)(iP:es[i]?=some e)(aH:l[i]?=some (n,v)):Hint P:=
 .gs false ([.dw (bQ k enc l)],[(0,.jP es clock [] (seen.push e.born))]) (λ_=>Gy b5 (.cI [.int k n,enc v])) λ_ _ _ _ _ _ _ h he=>aeg iP aH h he
end
end
section
variable {env:ah}{hL:Q→Y→Prop}{σ:Y}
def pW.mono{G:ch}{fn:Func}{CZ:Q→Y→Prop}{e:Exit}(h:pW G fn hL e env σ)(aC:∀a s,hL a s→CZ a s):pW G fn CZ e env σ:=by
 obtain⟨dB,σ2,an,aB⟩:=h;refine⟨dB,σ2,an,?_⟩;cases e with
 |normal=>obtain⟨c5,x,r,az,h1,D,aj,a1⟩:=aB;exact⟨c5,x,r,az,h1,D,aj,aC _ _ a1⟩
 |ret=>obtain⟨c5,x,r,az,h1,D,aj,a1⟩:=aB;exact⟨c5,x,r,az,h1,D,aj,aC _ _ a1⟩
 |_=>exact aB
variable {N:Nat}{P:Program}{dx:List Q}{f:FuncId}
def atr{ids:dg}{dk:Y}{o:Oper}{c:Call}{MU:List Q}(news:dg)(ai:o.op=.call c)(ay:wA env c=some (f,MU))(X:ue dk.ids σ MU=some dx)(pJ:σ.at dk.ids=some dk)
  (dO:news.all (λd=>!ids.contains d&&(σ.get d).isNone)=true) (ep:(σ.minus dk.ids).clean news.contains=true) (jv:∀r σ2,hL r σ2→r.refs (λd=>!(dk.ids++news).contains d)=false∧σ2.clean (λd=>!(dk.ids++news).contains d)=true) (b4:eP P f dk dx hL) (af:c8 P f) :
  h5 ⟨P,N,ids⟩ o env.ev σ (dk.ids++news) news (λr az=>∃σ2,hL r σ2∧az=σ2++σ.minus dk.ids):=by
 obtain⟨gO,args,k,aO,ps,rfl,bm,aC,rfl⟩:=BO ay;exact atn (G:=⟨P,N,ids⟩) (σ:=σ) news ai bm af.h b4 aC (zH X) (asR pJ).1 dO ep jv
def KT{P:Program}(bP:g4)(ids:dg)(ops:l7)(n:Nat)(kJ:List oO)(X:List (Nat×Hint P))(env:ah)(σ:Y):Option (ah×Y×List cZ):=match Ai ids kJ env σ with
 |none=>none
 |some (mT,kk)=>sW bP ids ops ⟨false,[],[]⟩ ((List.range n).map λi=>(i,hintOf X i)) [] mT kk
def TV{P:Program}(bP:g4)(ids:dg)(ops:l7)(n:Nat)(kJ:List oO)(X:List (Nat×Hint P))(env:ah)(σ:Y):Option (FuncId×List Q×List cZ):=match KT bP ids ops n kJ X env σ with
 |none=>none
 |some (aJ,dW,nN)=>match ops[n]? with
  |none=>none
  |some o=>match o.guard with
   |some _=>none
   |none=>match o.op with
    |.call c=>(match wA aJ c with
     |none=>none
     |some (f,ps)=>match ue [] dW ps with
      |none=>none
      |some dx=>some (f,dx,nN))
    |_=>none
def TW{P:Program}(bP:g4)(ids:dg)(ops:l7)(n:Nat)(ji:dg)(kJ:List oO)(X ef:List (Nat×Hint P))(env:ah)(σ:Y)(bN:Q)(ks cS:dg):Option (ah×Y×List cZ):=match KT bP ids ops n kJ X env σ with
 |none=>none
 |some (aJ,dW,_)=>match ops[n]? with
  |none=>none
  |some o=>match sW bP ids ops ⟨false,[],[]⟩ (ji.map λi=>(i,hintOf ef i)) [] (aJ.put o.dst bN) dW with
   |none=>none
   |some (e2,eg,nN)=>match Cl [] cS eg e2 ks with
    |none=>none
    |some dm=>match eg.at cS with
     |none=>none
     |some s3=>some (dm,s3,nN)
def ata{ids:dg}{bP:g4}{bq:Exit→ah→Y→Prop}{y:Code}(bb:jT P bP){id:Nat}{ops:l7}(n:Nat)(ji:dg)(kJ:List oO)(X:List (Nat×Hint P))(b4:eP P f [] dx hL)(af:c8 P f)
  (aH:List.range ops.size=List.range n++n::ji) (Z:wz N ops=true) (h:TV bP ids ops n kJ X env σ=some (f,dx,(List.range n).map λi=>(hintOf X i).exp)) (jv:∀r σ2,hL r σ2→r.refs (λd=>!([]:dg).contains d)=false∧σ2=[])
  (k:∀bN σ2,hL bN σ2→∃(ef:List (Nat×Hint P)) (dB:ah) (σ3:Y),TW bP ids ops n ji kJ X ef env σ bN (rW dB) σ3.ids=some (dB,σ3,ji.map λi=>(hintOf ef i).exp)∧aS ⟨P,N,ids⟩ y bq dB σ3):aS ⟨P,N,ids⟩ (.seq (.region id ops false) y) bq env σ:=by
 simp only[TV]at h;split at h
 ·cases h
 ·rename_i aJ dW nN u;split at h
  ·cases h
  ·rename_i o ai;split at h
   ·cases h
   ·rename_i bu;split at h
    ·rename_i c hop;split at h
     ·cases h
     ·rename_i oS ps ay;split at h
      ·cases h
      ·rename_i Dl uW;simp only[Option.some.injEq,Prod.mk.injEq]at h;obtain⟨rfl,rfl,cC⟩:=h;have lZ:=u;simp only[KT]at u;split at u
       ·cases u
       ·rename_i mT kk hm;refine asD (E2 hm) (A.seq (as9 bb n ji X aJ dW aH Z (by rw[u,cC]) ai bu (atr (dk:=[]) [] hop ay uW rfl rfl (atm _) (λr σ2 aC=>?_) b4 af) (as2 _) rfl ?_))
        ·obtain⟨cp,cG⟩:=jv r σ2 aC;exact⟨cp,by rw[cG];rfl⟩
        ·rintro bN az ⟨σ2,aC,rfl⟩;obtain⟨cp,cG⟩:=jv bN σ2 aC;subst cG;obtain⟨ef,dB,σ3,cQ,dM⟩:=k bN [] aC;rw[show([]:Y)++dW.minus (Y.ids [])=dW from NN dW];simp only[TW,lZ,ai]at cQ;split at cQ
         ·cases cQ
         ·rename_i e2 eg aro jI;split at cQ
          ·cases cQ
          ·rename_i dm uQ;split at cQ
           ·cases cQ
           ·rename_i s3 zc;simp only[Option.some.injEq,Prod.mk.injEq]at cQ;obtain⟨rfl,rfl,k1⟩:=cQ;exact⟨ef,e2,eg,by rw[jI,k1],asD (atq (ID uQ) (asR zc).1) dM⟩
    ·cases h
noncomputable def Db{α β:Type}(P:α→Prop)(K:α→Option β):Option β:=@dite _ (∃r,(∃a,P a)∧∀a,P a→K a=some r) (Classical.propDecidable _) (λh=>some (Classical.choose h)) (λ_=>none)
variable {α β:Type}{K:α→Option β}{r:β}
def Y2{P:α→Prop}(h:Db P K=some r):∀a,P a→K a=some r:=by
 unfold Db at h;split at h
 ·rename_i u;have:=(Classical.choose_spec u).2;rw[Option.some.inj h]at this;exact this
 ·cases h
def abJ{P:α→Prop}(h1:∃a,P a)(h:∀a,P a→K a=some r):Db P K=some r:=by
 unfold Db;have u:∃r,(∃a,P a)∧∀a,P a→K a=some r:=⟨r,h1,h⟩;rw[dif_pos u];obtain⟨a,ay⟩:=h1;have:=(Classical.choose_spec u).2 a ay;rw[h a ay]at this;exact this.symm
end
end
section
set_option linter.all false
open Go List
def Pc{I:bs}:∀{xs:List Q} {vs:dZ} {i:Nat} {a:Q},cV I xs vs→xs[i]?=some a→∃v,vs[i]?=some v∧bc I a v
 |[],_,_,_,_,h=>by simp at h
 |x::r,vs,i,a,h,hi=>by
  simp only[cV]at h;obtain⟨aA,bI,rfl,h1,D⟩:=h;cases i with
  |zero=>simp only[getElem?_cons_zero,Option.some.injEq]at hi ⊢;subst hi;exact⟨aA,rfl,h1⟩
  |succ i=>simp only[getElem?_cons_succ]at hi ⊢;exact Pc D hi
def Pd{I:bs}{a:Q}{v:Value}(ay:bc I a v):∀{xs:List Q} {vs:dZ} (i:Nat),cV I xs vs→cV I (xs.set i a) (vs.set i v)
 |[],vs,i,h=>by simp only[cV]at h;subst h;simp[cV]
 |x::r,vs,i,h=>by
  simp only[cV]at h;obtain⟨aA,bI,rfl,h1,D⟩:=h;cases i with
  |zero=>simp only[set_cons_zero,cV];exact⟨v,bI,rfl,ay,D⟩
  |succ i=>simp only[set_cons_succ,cV];exact⟨aA,_,rfl,h1,Pd ay i D⟩
def WR{α:Type}{a:α}:∀{l:List (List α)} (i:Nat),(∀e∈l,e.length=1)→(l.set i [a]).flatten=l.flatten.set i a
 |[],i,_=>by simp
 |x::r,i,h=>by
  have u:=h x (by simp);obtain⟨y,rfl⟩:∃y,x=[y]:=by
   match x,u with
   |[y],_=>exact⟨y,rfl⟩
  cases i with
  |zero=>simp
  |succ i=>simp only[set_cons_succ,flatten_cons,cons_append,nil_append];rw[WR i λe he=>h e (by simp[he])]
variable {I:bs}{cx:eW}{w:World}{β:Nat→Value}
def R3{G:ch}{σ:Y}(an:bY G cx I β σ w){e:Nat}{cU:List gQ}(he:σ.get e=some (.b9 cU)){X:iY}(U:β e=.tuple X):hs cx I w cU X.toList:=by
 have h:=an.cw e _ he;simp only[aY,U,Value.tuple.injEq,reduceCtorEq,false_or]at h;obtain⟨fF,rfl,h⟩:=h;exact h
def hs.turn{cx:eW}{I:bs}{w w':World}{b:Nat}{x:gQ}(hk:∀c,c≠b→c<w.heap.size→w'.heap[c]?=w.heap[c]?):∀{cU:List gQ} {X:dZ},hs cx I w cU X→∀{p:Nat} {aA:Value},p<cU.length→X[p]?=some aA→b1 aA=some b→kC cx I w' x aA→hs cx I w' (cU.set p x) X
 |[],_,_,p,_,aC,_,_,_=>by simp at aC
 |y::r,X,h,p,aA,aC,hu,kH,u=>by
  simp only[hs]at h;obtain⟨v,vs,rfl,h1,D,aj⟩:=h;cases p with
  |zero=>
   simp only[getElem?_cons_zero,Option.some.injEq]at hu;subst hu;simp only[set_cons_zero,hs];refine⟨v,vs,rfl,u,D,aj.go (cn.refl I) λc af=>⟨λbL=>hk c (λe=>?_) bL,λ_=>rfl,id⟩⟩;subst e;exact D c kH af
  |succ p=>
   simp only[getElem?_cons_succ]at hu;simp only[set_cons_succ,hs];have fB:b∈vs.filterMap b1:=List.mem_filterMap.2 ⟨aA,List.mem_of_getElem? hu,kH⟩;refine⟨v,vs,rfl,h1.go (cn.refl I) λc af=>⟨λbL=>hk c (λe=>?_) bL,λ_=>rfl,id⟩,D,hs.turn hk aj (by simpa using aC) hu kH u⟩;subst e;exact D c af fB
def XE{p:Nat→Bool}(h:∀d,p d=false)(o:cc):nV p o=false:=by
 cases o<;>simp only[nV,xG h,h,Bool.false_or]
 all_goals (split<;>simp[h])
section
variable {G:ch}{σ:Y}{o:Oper}{ev:Operand→Q}
def abK{cx:eW}{I:bs}{β:Nat→Value}{w:World}(an:bY G cx I β σ w){e p h3 sz:Nat}{cU:List gQ}{rows:List (List Q)}(he:σ.get e=some (.b9 cU))(aB:cU[p]?=some (.sl h3 sz rows)){v:Value}(aa:(ot.row p).rep (β e) v)(bM:rows≠[]):
  ∃X b aO arr,β e=.tuple X∧X.toList[p]?=some v∧hs cx I w cU X.toList∧v=.slice (some ⟨b,0,none⟩) rows.length aO∧rows.length≤aO∧aO≤maxLen∧w.heap[b]?=some (.cells arr h3 (0,0))∧arr.size=aO*sz∧
    cV I rows.flatten (arr.toList.take (rows.length*sz))∧(∀e∈rows,e.length=sz)∧(∀o:Nat,I b o=none)∧Place cx b:=by
 obtain⟨X,ak,ar⟩:=aa;have U:=R3 an he ak;obtain⟨dF,cp,cG⟩:=U.get aB;rw[ar]at cp;cases cp;rcases cG with⟨_,g⟩|⟨b,aO,arr,cp,cG,gC,kB,uL,g6,AS,Le,Lf⟩
 ·exact absurd g bM
 ·exact⟨X,b,aO,arr,ak,ar,U,cp,cG,gC,kB,uL,g6,AS,Le,Lf⟩
def at9{T e p h3 sz:Nat}{cU:List gQ}{rows:List (List Q)}{x:Operand}{jx}(h:o.op=.call ⟨.builtin .len,#[x],jx⟩)(hk:jx=#[T])(u:ev x=.fR (.row p) e)(he:σ.get e=some (.b9 cU))(aB:cU[p]?=some (.sl h3 sz rows)){E:Nat}(aQ:G.P.underlying T=some (.slice E)):
  Yields G o ev σ [] [e] (.int .i64 (rows.length:Int)):=
 .pure λaz cx I β w aZ cf an hop=>by
  subst hk;have h1:=hop x (by simp[h,Op.operands,Call.operands]);rw[u]at h1
  simp only[au]at h1;have aa:∃a c,aZ x=.slice a rows.length c:=by
   obtain⟨X,ak,ar⟩:=h1;have U:=R3 an (by rw[cf e (by simp)];exact he) ak;obtain⟨dF,cp,cG⟩:=U.get aB;rw[ar]at cp;cases cp;rcases cG with⟨g,ih⟩|⟨b,aO,arr,cp,_⟩
   ·exact⟨none,0,by rw[g,ih];rfl⟩
   ·exact⟨_,_,cp⟩
  obtain⟨a,c,aa⟩:=aa;have aJ:∀w,(underlying T).run G.P w=.ok (.slice E) w:=λw=>by simp[underlying,program,Sem.run,aQ]
  exact⟨.int .i64 rows.length,by simp[execOp,h,resolve,invoke,builtin,Builtin.len_,aa,aJ,goInt],by simp[au,bc]⟩
def P4{cx:eW}{I:bs}{β:Nat→Value}{w:World}(an:bY G cx I β σ w){e p off h3 sz:Nat}{cU:List gQ}{rows:List (List Q)}(he:σ.get e=some (.b9 cU))(aB:cU[p]?=some (.sl h3 sz rows)){v:Value}(aa:(ot.qp p off).rep (β e) v)(bM:rows≠[]):
  ∃X aA b aO arr,β e=.tuple X∧X.toList[p]?=some aA∧b1 aA=some b∧hs cx I w cU X.toList∧v=.pointer (some ⟨b,off,none⟩)∧aA=.slice (some ⟨b,0,none⟩) rows.length aO∧rows.length≤aO∧aO≤maxLen∧w.heap[b]?=some (.cells arr h3 (0,0))∧arr.size=aO*sz∧
    cV I rows.flatten (arr.toList.take (rows.length*sz))∧(∀e∈rows,e.length=sz)∧(∀o:Nat,I b o=none)∧Place cx b:=by
 obtain⟨X,aA,b,ak,ar,aM,aK⟩:=aa;obtain⟨fF,aP,aO,arr,cp,cG,gC,kB,uL⟩:=abK an he aB (v:=aA) ⟨X,ak,ar⟩ bM;have:aP=b:=by rw[kB]at aM;simpa [b1]using aM
 subst this;rw[ak]at cp;cases cp;exact⟨X,aA,aP,aO,arr,ak,ar,aM,gC,aK,kB,uL⟩
def auY{T e p off h3 sz:Nat}{cU:List gQ}{rows:List (List Q)}{x:Operand}{a:Q}(h:o.op=.load T x)(u:ev x=.fR (.qp p off) e)(he:σ.get e=some (.b9 cU))(aB:cU[p]?=some (.sl h3 sz rows))(ay:rows.flatten[off]?=some a)(aQ:dL G.P T 1 false):
  Yields G o ev σ [] [e] a:=
 .pure λaz cx I β w aZ cf an hop=>by
  have h1:=hop x (by simp[h,Op.operands]);rw[u]at h1
  simp only[au]at h1;obtain⟨X,aA,b,aO,arr,ak,ar,aM,aK,be,bJ,b8,cT,dD,eB,fm,qC,MV,MW⟩:=P4 an (by rw[cf e (by simp)];exact he) aB h1 (λe=>by rw[e]at ay;simp at ay);obtain⟨v,cp,cG⟩:=Pc fm ay;have mK:arr[off]?=some v:=by
   rw[getElem?_take]at cp;split at cp
   ·simpa using cp
   ·cases cp
  have pK:∀j,j<1→∃dF,[v][j]?=some dF∧w.cell? ⟨b,off+j,none⟩=some dF:=λj aT=>by
   have:j=0:=by omega
   subst this;exact⟨v,rfl,by simp[World.cell?,dD,mK]⟩
  have aH:=Bi aQ (vs:=[v]) pK (λ_=>by omega);exact⟨v,by simp[execOp,h,be,Instr.loadAt,Instr.sureAddr,aH],bc.rep _ _ _ cG⟩
def ava{T e p off h3:Nat}{cU:List gQ}{rows:List (List Q)}{x y:Operand}{a:Q}(h:o.op=.store T x y)(u:ev x=.fR (.qp p off) e)(ag:ev y=a)(af:a.closed=true)(ai9:a.one=true)(he:σ.get e=some (.b9 cU))(aB:cU[p]?=some (.sl h3 1 rows))(ai:off<rows.length)(aQ:dL G.P T 1 false):
  h5 G o ev σ [e] [] (λr az=>r=.undef∧az=(e,.b9 (cU.set p (.sl h3 1 (rows.set off [a]))))::σ.minus [e]):=by
 intro cx I β w aZ an hop;have h1:=hop x (by simp[h,Op.operands]);rw[u]at h1
 have aj:=hop y (by simp[h,Op.operands]);rw[ag]at aj
 simp only[au]at h1;obtain⟨X,aA,b,aO,arr,ak,ar,aM,aK,be,bJ,b8,cT,dD,eB,fm,qC,MV,MW⟩:=P4 an he aB h1 (λe=>by rw[e]at ai;simp at ai);have oU:=atw ai9 aj;have U1:=au.closed _ _ af aj;have mZ:=Hl (P:=G.P) dD [aZ y] (off:=off) (by simp;omega) (λv aa=>by rw[List.mem_singleton.1 aa];exact oU.1);have eY:(execOp aZ o).run G.P w=.ok .skip (w.setRow b (iZ arr.toList off [aZ y]).toArray):=by
  have aJ:((#[aZ y]:iY).size≠1)=False:=by simp
  simp[execOp,h,be,Instr.storeAt,Instr.sureAddr,storeVar,aQ.size,oU.2,mZ]
 rw[eY];have jt:(σ.get e).isSome:=by rw[he];rfl
 have hk:gK w (w.setRow b (iZ arr.toList off [aZ y]).toArray) b:=gK.setRow w b _;have ajB:b∈c2 (β e):=by rw[ak,oR];exact List.mem_filterMap.2 ⟨aA,List.mem_of_getElem? ar,aM⟩
 have tQ:iZ arr.toList off [aZ y]=arr.toList.set off (aZ y):=by
  apply List.ext_getElem?;intro i;simp only[iZ,length_singleton];rw[List.getElem?_set];by_cases yZ:off=i
  ·subst yZ;rw[if_pos rfl,if_pos (by simp;omega),List.append_assoc,List.getElem?_append_right (by simp;omega),length_take,Nat.min_eq_left (by simp;omega)];simp
  ·rw[if_neg yZ];by_cases bL:i<off
   ·rw[List.append_assoc,List.getElem?_append_left (by simp;omega),getElem?_take,if_pos bL]
   ·rw[List.getElem?_append_right (by simp;omega),getElem?_drop];congr 1;simp only[length_append,length_take,length_singleton,Array.length_toList];omega
 have iz:kC cx I (w.setRow b (iZ arr.toList off [aZ y]).toArray) (.sl h3 1 (rows.set off [a])) aA:=by
  refine .inr ⟨b,aO,_,by rw[bJ,length_set],by rw[length_set];exact b8,cT,setRow_heap w b arr _ h3 _ dD,?_,?_,?_,MV,MW⟩
  ·rw[tQ];simp[eB]
  ·rw[WR off qC,length_set,tQ];have:=Pd U1 off fm;rw[←take_set]at this;simpa using this
  ·intro cB qi;rcases List.mem_or_eq_of_mem_set qi with q|q
   ·exact qC cB q
   ·rw[q];rfl
 have nD:p<cU.length:=(List.getElem?_eq_some_iff.1 aB).1;have KR:=hs.turn (λc af bL=>hk.block c af bL) aK nD ar aM iz
 have nc:∀y,y≠e→Y.get ((e,cc.b9 (cU.set p (.sl h3 1 (rows.set off [a]))))::σ.minus [e]) y=σ.get y:=λy ag=>by
  rw[asw,if_neg (Ne.symm ag),asG,if_neg (by simpa using ag)]
 refine⟨.undef,_,I,β,⟨rfl,rfl⟩,by simp[au,bc],?_,cn.refl I,λ_ _=>rfl,λy ag=>nc y (by simpa using ag)⟩;refine an.redo (M:=[e]) (news:=[]) (b:=b) (eF:=β) hk (λo=>?_) (λy ag X cB=>?_) MW (λy ag=>nc y (by simpa using ag)) (λ_ _=>rfl) (λy ag=>by cases ag) (λy o _ _=>?_) (λy ag o hc=>?_) (λy ag ef c af=>?_) (λy ag z hz mE eV ef c af gd=>?_)
 ·cases o with
  |none=>exact an.tu dD
  |some o=>exact MV o
 ·exact an.dA e y jt X (λe=>ag (by simp[e])) b ajB cB
 ·exact XE (λ_=>rfl) o
 ·simp only[List.mem_singleton]at ag;subst ag;rw[asw,if_pos rfl]at hc;cases hc;simp only[aY];exact .inr ⟨X,ak,KR⟩
 ·simp only[List.mem_singleton]at ag;subst ag;exact⟨y,by simp,jt,af⟩
 ·simp only[List.mem_singleton]at ag hz;exact mE (ag.trans hz.symm)
end
def P5{cx:eW}{I aU:bs}{w:World}{α:Type}{T sz:Nat}{enc:α→List Q}(hle:cn I aU):∀(l:List (List α)) (vs:dZ),hs cx I w (encS T sz enc l) vs→(∀b∈vs.filterMap b1,∀o,aU b o=h2 w b o)→cV aU (l.map λr=>[Q.bf false (r.map enc)]).flatten vs
 |[],vs,h,_=>by simp only[encS,map_nil,hs]at h;subst h;simp[cV]
 |r::l,vs,h,g9=>by
  simp only[encS,map_cons,hs]at h;obtain⟨aA,bI,rfl,h1,_,aj⟩:=h;simp only[map_cons,flatten_cons,cons_append,nil_append,cV];refine⟨aA,bI,rfl,kC.bf h1 hle λb U=>g9 b (by simp[U]),P5 hle l bI aj λb U=>g9 b ?_⟩;rw[filterMap_cons];split
  ·exact U
  ·exact mem_cons_of_mem _ U
variable {T:Nat}
def auy{G:ch}{env:ah}{σ:Y}{α:Type}{aV sz d e n:Nat}(l:List (List α))(enc:α→List Q)(Z:σ.get d=some (.eO T e n none))(he:σ.get e=some (.b9 (encS aV sz enc l))):
  cr G env σ env ((d,.slice T 1 (l.map λr=>[.bf false (r.map enc)]) 0 false)::σ.minus [d,e]):=λcx I β a w h b3=>by
 have js:d≠e:=λcB=>by subst cB;rw[Z]at he;cases he
 have n5:(σ.get d).isSome:=by rw[Z];rfl
 have jt:(σ.get e).isSome:=by rw[he];rfl
 let aU:bs:=λb o=>if b∈c2 (β e)then h2 w b o else I b o
 have fB:∀b,b∈c2 (β e)→∀o,aU b o=h2 w b o:=λb U o=>if_pos U;have pP:∀b,¬(b∈c2 (β e))→∀o,aU b o=I b o:=λb U o=>if_neg U
 have hle:cn I aU:=λb o v aa=>by
  by_cases U:b∈c2 (β e)
  ·rw[fB b U];exact h.JT b o v aa
  ·rw[pP b U];exact aa
 have nD:∀b,b∈c2 (β e)→Place cx b:=λb U=>(h.Fj he U).2
 have sub:∀x o,Y.get ((d,.slice T 1 (l.map λr=>[.bf false (r.map enc)]) 0 false)::σ.minus [d,e]) x=some o→(x=d∧o=.slice T 1 (l.map λr=>[.bf false (r.map enc)]) 0 false)∨(x≠d∧x≠e∧σ.get x=some o):=λx o u=>by
  rw[asw,asG]at u;split at u
  ·rename_i cB;exact .inl ⟨cB.symm,(Option.some.inj u).symm⟩
  ·rename_i hH;split at u
   ·cases u
   ·rename_i g3;simp only[mem_cons,not_mem_nil,or_false,not_or]at g3;exact .inr ⟨g3.1,g3.2,u⟩
 have C9:∀x,(Y.get ((d,cc.slice T 1 (l.map λr=>[.bf false (r.map enc)]) 0 false)::σ.minus [d,e]) x).isSome→(σ.get x).isSome:=λx u=>by
  obtain⟨o,u⟩:=Option.isSome_iff_exists.1 u;rcases sub x o u with⟨rfl,_⟩|⟨_,_,u⟩
  ·exact n5
  ·rw[u];rfl
 refine⟨aU,β,{h with good:=λb o v aa=>?_,hM:=λb v aa=>?_,jg:=h.jg.trans hle,iV:=λb U aR o=>?_,cw:=λx o u=>?_,dA:=λx y u ag=>h.dA x y (C9 x u) (C9 y ag)},b3.mono hle (hp.refl β)⟩
 ·by_cases U:b∈c2 (β e)
  ·rw[fB b U]at aa;exact BE b o v aa
  ·rw[pP b U]at aa;exact h.good b o v aa
 ·by_cases U:b∈c2 (β e)
  ·rw[fB b U]at aa;exact Bs b v aa
  ·rw[pP b U]at aa;exact h.hM b v aa
 ·have:¬(b∈c2 (β e)):=λha=>by
   rcases nD b ha with q|q
   ·omega
   ·exact aR q
  rw[pP b this];exact h.iV b U aR o
 ·rcases sub x o u with⟨rfl,rfl⟩|⟨hH,g3,u⟩
  ·by_cases iR:β x=.nilFunc
   ·simp only[aY];exact .inl iR
   obtain⟨b,aO,arr,X,ak,ar,aM,aK,be,bJ,b8,cT,dD,eB,fm,qC⟩:=E4 h Z he iR;have A7:l.length=n:=by simpa [encS]using qC
   have vT:¬b∈c2 (β e):=h.dA x e n5 jt js b (j8 (by rw[ak];rfl));simp only[aY];refine .inr (.inr ⟨b,aO,arr,by rw[ak];simp[A7],by simp[A7];exact ar,aM,aK,by simpa using be,?_,λe qi=>?_,Nat.zero_le _,(λh=>by cases h),(λo _=>by rw[pP b vT];exact dD o),eB⟩)
   ·have:=P5 hle l X.toList fm λb U=>fB b (by rw[bJ,oR];exact U);rw[←show arr.toList.take n=X.toList from cT]at this;simpa [A7]using this
   ·obtain⟨r,_,rfl⟩:=List.mem_map.1 qi;rfl
  ·exact(h.cw x o u).Tw hle λb U=>pP b λq=>h.dA x e (by rw[u];rfl) jt g3 b U q
section
variable {P:Program}
def OT{α:Type}{l:List α}{i:Int}{r:α}(h:di l i=some r):0≤i∧i.toNat<l.length∧l[i.toNat]?=some r:=by
 unfold di at h;split at h
 ·exact⟨‹_›,(List.getElem?_eq_some_iff.1 h).1,h⟩
 ·cases h
def OU{α:Type}{aV sz:Nat}{enc:α→List Q}{l:List (List α)}{i:Int}{r:List α}(h:di l i=some r):(encS aV sz enc l)[i.toNat]?=some (.sl aV sz (r.map enc)):=by
 simp[encS,(OT h).2.2]
def Il(bn:Nat)(a:Q)(op:Op)(env:ah)(σ:Y):Option (c7×cZ):=match op with
 |.load T x=>(match env.cW x with
  |some (.fR (.qp p off) e)=>(match σ.get e with
   |some (.b9 cU)=>bif Nat.beq T bn then some (.y [e] a,([.fR (.qp p off) 0],[(0,.b9 cU)]))else none
   |_=>none)
  |_=>none)
 |_=>none
def aei{bn p off h3 sz:Nat}{cU:List gQ}{rows:List (List Q)}{a:Q}(aB:cU[p]?=some (.sl h3 sz rows))(ay:rows.flatten[off]?=some a)(aQ:dL P bn 1 false){o:Oper}{N:Nat}{ids:dg}{env:ah}{σ:Y}{s:c7}{aX:cZ}
  (h:Il bn a o.op env σ=some (s,aX)) (he:aX=([.fR (.qp p off) 0],[(0,.b9 cU)])):fP ⟨P,N,ids⟩ o env σ s:=by
 cases ai:o.op<;>rw[ai]at h
 case load T x=>
  simp only[Il]at h;split at h
  ·rename_i sg alC e u;split at h
   ·rename_i sw U;cases af:Nat.beq T bn with
    |false=>rw[af]at h;cases h
    |true=>
     rw[af]at h;have:=Nat.eq_of_beq_eq_true af;subst this;cases h;simp only[Prod.mk.injEq,List.cons.injEq,Q.fR.injEq,ot.qp.injEq,cc.b9.injEq,and_true,true_and]at he;obtain⟨⟨rfl,rfl⟩,rfl⟩:=he;exact auY ai (asv u) U aB ay aQ
   ·cases h
  ·cases h
 all_goals (simp only[Il]at h;cases h)
def aar{α:Type}{enc:α→List Q}{f:α→Q}(bm:∀x,enc x=[f x]){r:List α}{j:Nat}{c:α}(h:r[j]?=some c):(r.map enc).flatten[j]?=some (f c):=by
 have:(r.map enc).flatten=r.map f:=by
  clear h;induction r with
  |nil=>rfl
  |cons x r bg=>simp[bm,bg]
 rw[this,List.getElem?_map,h];rfl
def zb{α:Type}{bn aV:Nat}{enc:α→List Q}{f:α→Q}{l:List (List α)}{i j:Int}{r:List α}{c:α}(h:di l i=some r)(D:di r j=some c)(bm:∀x,enc x=[f x])(aQ:dL P bn 1 false):Hint P:=
 .gs false ([.fR (.qp i.toNat j.toNat) 0],[(0,.b9 (encS aV 1 enc l))]) (λ_=>Il bn (f c)) λ_ _ _ _ _ _ _ b3 he=>aei (OU h) (aar bm (OT D).2.2) aQ b3 he
def Ip(bn:Nat)(Gd:List gQ)(op:Op)(env:ah)(σ:Y):Option (c7×cZ):=match op with
 |.store T x y=>(match env.cW x with
  |some (.fR (.qp p off) e)=>(match env.cW y with
   |some a=>(match σ.get e with
    |some (.b9 cU)=>bif Nat.beq T bn then some (.e [e] [] .undef ((e,.b9 Gd)::σ.minus [e]),([.fR (.qp p off) 0,a],[(0,.b9 cU)]))else none
    |_=>none)
   |_=>none)
  |_=>none)
 |_=>none
def aej{bn p off h3:Nat}{cU Gd:List gQ}{rows:List (List Q)}{a:Q}(af:a.closed=true)(h1:a.one=true)(aB:cU[p]?=some (.sl h3 1 rows))(D:off<rows.length)(aj:Gd=cU.set p (.sl h3 1 (rows.set off [a])))(aQ:dL P bn 1 false){o:Oper}{N:Nat}{ids:dg}{env:ah}{σ:Y}{s:c7}{aX:cZ}
  (h:Ip bn Gd o.op env σ=some (s,aX)) (he:aX=([.fR (.qp p off) 0,a],[(0,.b9 cU)])):fP ⟨P,N,ids⟩ o env σ s:=by
 cases ai:o.op<;>rw[ai]at h
 case store T x y=>
  simp only[Ip]at h;split at h
  ·rename_i sg alC e u;split at h
   ·rename_i gE ag;split at h
    ·rename_i sw U;cases eS:Nat.beq T bn with
     |false=>rw[eS]at h;cases h
     |true=>
      rw[eS]at h;have:=Nat.eq_of_beq_eq_true eS;subst this;cases h;simp only[Prod.mk.injEq,List.cons.injEq,Q.fR.injEq,ot.qp.injEq,cc.b9.injEq,and_true,true_and]at he;obtain⟨⟨⟨rfl,rfl⟩,rfl⟩,rfl⟩:=he;subst aj;exact⟨ava ai (asv u) (asv ag) af h1 U aB D aQ,rfl⟩
    ·cases h
   ·cases h
  ·cases h
 all_goals (simp only[Ip]at h;cases h)
def sF{α:Type}{bn aV:Nat}{enc:α→List Q}{f:α→Q}{l:List (List α)}{i j:Int}{r:List α}{c:α}(x:α)(h:di l i=some r)(D:di r j=some c)(bm:∀x,enc x=[f x])(af:(f x).closed=true)(h1:(f x).one=true)(aQ:dL P bn 1 false):Hint P:=
 .gs true ([.fR (.qp i.toNat j.toNat) 0,f x],[(0,.b9 (encS aV 1 enc l))]) (λ_=>Ip bn (encS aV 1 enc (l.set i.toNat (r.set j.toNat x)))) λ_ _ _ _ _ _ _ b3 he=>
  aej af h1 (OU h) (by rw[length_map];exact(OT D).2.1) (by rw[IS,List.map_set,bm]) aQ b3 he
def B4(bn:Nat)(n:Nat)(op:Op)(env:ah)(σ:Y):Option (c7×cZ):=match op with
 |.call ⟨.builtin .len,args,ks⟩=>(match args.toList,ks.toList with
  |[x],[T]=>(match env.cW x with
   |some (.fR (.row p) e)=>(match σ.get e with
    |some (.b9 cU)=>bif Nat.beq T bn then some (.y [e] (.int .i64 (n:Int)),([.fR (.row p) 0],[(0,.b9 cU)]))else none
    |_=>none)
   |_=>none)
  |_,_=>none)
 |_=>none
def aek{bn E n p h3 sz:Nat}{cU:List gQ}{rows:List (List Q)}(aB:cU[p]?=some (.sl h3 sz rows))(aR:rows.length=n)(aQ:P.underlying bn=some (.slice E)){o:Oper}{N:Nat}{ids:dg}{env:ah}{σ:Y}{s:c7}{aX:cZ}
  (h:B4 bn n o.op env σ=some (s,aX)) (he:aX=([.fR (.row p) 0],[(0,.b9 cU)])):fP ⟨P,N,ids⟩ o env σ s:=by
 cases ai:o.op with
 |call c=>
  rw[ai]at h;obtain⟨f,args,ks⟩:=c;cases f with
  |builtin b=>
   cases b<;>first|(simp only[B4]at h;cases h;done)|skip
   simp only[B4]at h;split at h
   ·rename_i x T bm hk;split at h
    ·rename_i sg e u;split at h
     ·rename_i sw U;cases af:Nat.beq T bn with
      |false=>rw[af]at h;cases h
      |true=>
       rw[af]at h;have:=Nat.eq_of_beq_eq_true af;subst this;cases h;simp only[Prod.mk.injEq,List.cons.injEq,Q.fR.injEq,ot.row.injEq,cc.b9.injEq,and_true,true_and]at he;obtain⟨rfl,rfl⟩:=he;have aJ:args=#[x]:=by simpa using congrArg toArray bm
       have e2:ks=#[T]:=by simpa using congrArg toArray hk
       subst aJ e2;subst aR;exact at9 ai rfl (asv u) U aB aQ
     ·cases h
    ·cases h
   ·cases h
  |_=>simp only[B4]at h;cases h
 |_=>rw[ai]at h;simp only[B4]at h;cases h
def rN{α:Type}{bn E aV sz:Nat}{enc:α→List Q}{l:List (List α)}{i:Int}{r:List α}(h:di l i=some r)(aQ:P.underlying bn=some (.slice E)):Hint P:=
 .gs false ([.fR (.row i.toNat) 0],[(0,.b9 (encS aV sz enc l))]) (λ_=>B4 bn r.length) λ_ _ _ _ _ _ _ b3 he=>aek (OU h) (by simp) aQ b3 he
end
structure C3(n:Nat) where
 l:cq
 h:l.length=n
def C3.zero(n:Nat):C3 n:=⟨List.replicate n 0,length_replicate⟩
def C3.put{n:Nat}(v:C3 n)(i:Nat)(x:Int):C3 n:=⟨v.l.set i x,by rw[length_set];exact v.h⟩
def xT{σ:Y}{d:Nat}{o gl:cc}(h:σ.get d=some gl):(σ.set d o).get d=some o:=by rw[asB,if_pos rfl,h];rfl
def wm{σ:Y}{d x:Nat}{o:cc}(h:x≠d):(σ.set d o).get x=σ.get x:=by rw[asB,if_neg h]
def Iz{d:Nat}{xs:cq}:aY cx I β w d (.vec T xs)↔aY cx I β w d (.cells T (xs.map (Q.int .i64))):=by
 simp only[aY];constructor
 ·rintro(h|⟨b,arr,h1,D,aj,a1⟩)
  ·exact .inl h
  ·exact .inr ⟨b,arr,h1,D,by rw[aj];exact I8 xs,a1⟩
 ·rintro(h|⟨b,arr,h1,D,aj,a1⟩)
  ·exact .inl h
  ·exact .inr ⟨b,arr,h1,D,Oi xs _ aj,a1⟩
def bY.swap{G:ch}{σ σ2:Y}(h:bY G cx I β σ w){d:Nat}{o fW:cc}(Z:σ.get d=some o)(tK:σ2.get d=some fW)(bu:∀x,x≠d→σ2.get x=σ.get x)(ai:aY cx I β w d o→aY cx I β w d fW):bY G cx I β σ2 w:=by
 have fq:∀x,(σ2.get x).isSome→(σ.get x).isSome:=λx u=>by
  by_cases e:x=d
  ·subst e;rw[Z];rfl
  ·rw[←bu x e];exact u
 refine{h with cw:=λx hx u=>?_,dA:=λx y u ag=>h.dA x y (fq x u) (fq y ag)};by_cases e:x=d
 ·subst e;rw[tK]at u;cases u;exact ai (h.cw x o Z)
 ·rw[bu x e]at u;exact h.cw x hx u
section
variable {G:ch}{σ:Y}{o:Oper}{ev:Operand→Q}
def Yields.vec{dI R:dg}{bN:Q}{d T:Nat}{xs:cq}(Z:σ.get d=some (.vec T xs))(ajJ:d∈R)(h:Yields G o ev (σ.set d (.cells T (xs.map (Q.int .i64)))) dI R bN):Yields G o ev σ dI R bN:=λaz cx I β w aZ cf an hm hop=>by
 have dH:az.get d=some (.vec T xs):=by rw[cf d ajJ];exact Z
 have oG:bY G cx I β (az.set d (.cells T (xs.map (Q.int .i64)))) w:=an.swap dH (xT dH) (λx u=>wm u) Iz.1
 have:=h (az.set d (.cells T (xs.map (Q.int .i64)))) cx I β w aZ (λx u=>by
  by_cases e:x=d
  ·subst e;rw[xT dH,xT Z]
  ·rw[wm e,wm e];exact cf x u) oG hm hop
 generalize (execOp aZ o).run G.P w=r at this;have key:∀v w',(∃aU β',au aU β' bN v∧bY G cx aU β' (az.set d (.cells T (xs.map (Q.int .i64)))) w'∧cn I aU∧(∀d,d∉dI→β' d=β d))→∃aU β',au aU β' bN v∧bY G cx aU β' az w'∧cn I aU∧(∀d,d∉dI→β' d=β d):=λv w' ⟨aU,β',h1,D,aj⟩=>⟨aU,β',h1,D.swap (xT dH) dH (λx u=>(wm u).symm) Iz.2,aj⟩;cases r with
 |halt x w'=>exact this.elim
 |ok n w'=>cases n with
  |value v=>exact key _ _ this
  |skip=>exact key _ _ this
  |enter f args=>exact Calls.mono this λe uv ⟨v,h1,D⟩=>⟨v,h1,key _ _ D⟩
  |_=>exact this.elim
def Yields.arr{dI R:dg}{xs:cq}(h:Yields G o ev σ dI R (.agg (xs.map (Q.int .i64)))):Yields G o ev σ dI R (.arr xs):=λaz cx I β w aZ cf an hm hop=>by
 have:=h az cx I β w aZ cf an hm hop;generalize (execOp aZ o).run G.P w=r at this;have key:∀v w',(∃aU β',au aU β' (.agg (xs.map (Q.int .i64))) v∧bY G cx aU β' az w'∧cn I aU∧(∀d,d∉dI→β' d=β d))→∃aU β',au aU β' (.arr xs) v∧bY G cx aU β' az w'∧cn I aU∧(∀d,d∉dI→β' d=β d):=λv w' ⟨aU,β',h1,D⟩=>⟨aU,β',Qu.1 h1,D⟩;cases r with
 |halt x w'=>exact this.elim
 |ok n w'=>cases n with
  |value v=>exact key _ _ this
  |skip=>exact key _ _ this
  |enter f args=>exact Calls.mono this λe uv ⟨v,h1,D⟩=>⟨v,h1,key _ _ D⟩
  |_=>exact this.elim
def h5.vec{d T ll:Nat}{xs bx:cq}{x1:Q}{M:dg}(oC:M=[d])(Z:σ.get d=some (.vec T xs))
  (h:h5 G o ev (σ.set d (.cells T (xs.map (Q.int .i64)))) M [] (λr az=>r=x1∧az=(σ.set d (.cells T (xs.map (Q.int .i64)))).set d (.cells ll (bx.map (Q.int .i64))))) :
  h5 G o ev σ M [] (λr az=>r=x1∧az=σ.set d (.vec ll bx)):=λcx I β w aZ an hop=>by
 subst oC;have oG:bY G cx I β (σ.set d (.cells T (xs.map (Q.int .i64)))) w:=an.swap Z (xT Z) (λx u=>wm u) Iz.1;have:=h cx I β w aZ oG hop
 have conv:∀{aU β' w'},bY G cx aU β' ((σ.set d (.cells T (xs.map (Q.int .i64)))).set d (.cells ll (bx.map (Q.int .i64)))) w'→bY G cx aU β' (σ.set d (.vec ll bx)) w':=λD=>
  D.swap (d:=d) (xT (xT Z)) (xT Z) (λx u=>by rw[wm u,wm u,wm u]) Iz.2
 have nc:∀x,x∉[d]→(σ.set d (.vec ll bx)).get x=σ.get x:=λx u=>wm (by simpa using u);generalize (execOp aZ o).run G.P w=r at this
 have key:∀v w',(∃bN az aU β',(bN=x1∧az=(σ.set d (.cells T (xs.map (Q.int .i64)))).set d (.cells ll (bx.map (Q.int .i64))))∧au aU β' bN v∧bY G cx aU β' az w'∧cn I aU∧(∀x,x∉([]:dg)→β' x=β x)∧(∀x,x∉[d]→az.get x=(σ.set d (.cells T (xs.map (Q.int .i64)))).get x))→∃bN az aU β',(bN=x1∧az=σ.set d (.vec ll bx))∧au aU β' bN v∧bY G cx aU β' az w'∧cn I aU∧(∀x,x∉([]:dg)→β' x=β x)∧(∀x,x∉[d]→az.get x=σ.get x):=λv w' ⟨a,az,aU,β',⟨bM,h1⟩,D,aj,a1,bU,_⟩=>by
  subst bM h1;exact⟨a,_,aU,β',⟨rfl,rfl⟩,D,conv aj,a1,bU,nc⟩
 cases r with
 |halt x w'=>exact this.elim
 |ok n w'=>cases n with
  |value v=>exact key _ _ this
  |skip=>exact key _ _ this
  |enter f args=>exact Calls.mono this λe uv ⟨v,h1,D⟩=>⟨v,h1,key _ _ D⟩
  |_=>exact this.elim
end
section
variable {P:Program}
end
end
section
set_option linter.all false
open Go List
section look
variable {P:Program}{I:bs}{ia α:Type}{K:TypeId}{vL:ia→Q}{q:ia→ia→Bool}{enc:α→Q}
end look
section ops
variable {G:ch}{σ:Y}{o:Oper}{ev:Operand→Q}
end ops
section hints
variable {P:Program}
end hints
def m3.mono{P:Program}{Φ FH:Value→World→Prop}{r:Result Next}(h:m3 P Φ r)(aC:∀v w,Φ v w→FH v w):m3 P FH r:=by
 cases r with
 |ok n w=>
  cases n with
  |value v=>exact aC _ _ h
  |skip=>exact aC _ _ h
  |enter f args=>exact Calls.mono h λe uv ⟨v,h1,D⟩=>⟨v,h1,aC _ _ D⟩
  |_=>exact h
 |_=>exact h
section many
variable {P:Program}
def fD.app{G:ch}{ops:l7}{s:mx}{K:ah→Y→Prop}{ji:dg}:∀{o9:dg} {log:List (Nat×dg)} {env:ah} {σ:Y},fD G ops s log o9 env σ (λe az=>∀Gc,fD G ops s Gc ji e az K)→fD G ops s log (o9++ji) env σ K
 |[],log,_,_,h=>h log
 |i::l,log,env,σ,h=>by
  obtain⟨o,ai,h⟩:=h;refine⟨o,ai,?_⟩;rcases h with⟨h1,D,aj⟩|⟨h1,D,dI,R,bN,σ2,aj,a1,bU,dP,fz⟩|⟨h1,D,M,news,Φ,aj,a1,bU,dP,fz⟩|⟨h1,D,aj⟩
  ·exact .inl ⟨h1,D,fD.app aj⟩
  ·exact .inr (.inl ⟨h1,D,dI,R,bN,σ2,aj,a1,bU,dP,fD.app fz⟩)
  ·exact .inr (.inr (.inl ⟨h1,D,M,news,Φ,aj,a1,bU,dP,λbN az bV=>fD.app (fz bN az bV)⟩))
  ·exact .inr (.inr (.inr ⟨h1,D,fD.app aj⟩))
def FF(s:mx)(i:Nat):∀log:List (Nat×dg),rV s i [] log=true
 |[]=>rfl
 |(j,R)::r=>by simp[rV,FF s i r]
end many
section made
variable {G:ch}{σ:Y}{o:Oper}{ev:Operand→Q}
end made
section
variable {P:Program}
end
end
section
open Go Go.Proofs.Tryz List
set_option maxRecDepth 100000
set_option linter.all false
structure dQ where
 cu:Int
 IY:Bool
instance:Inhabited dQ:=⟨dQ.mk (0:Int) false⟩
def ec:jS dQ:=⟨λx=>[.int .i64 x.cu,.bool x.IY],2,λ_=>rfl,λ_=>rfl,λ_=>rfl⟩
structure dR where
 A:Int
 B:Int
 kP:Int
 kQ:Int
 sH:Int
instance:Inhabited dR:=⟨dR.mk (0:Int) (0:Int) (0:Int) (0:Int) (0:Int)⟩
def eT:jS dR:=⟨λx=>[.int .i64 x.A,.int .i64 x.B,.int .i64 x.kP,.int .i64 x.kQ,.int .i64 x.sH],5,λ_=>rfl,λ_=>rfl,λ_=>rfl⟩
structure bA where
 bC:List dQ
 Links:List dR
instance:Inhabited bA:=⟨bA.mk [] []⟩
structure b6 where
 bz:Int
 br:Int
instance:Inhabited b6:=⟨b6.mk (0:Int) (0:Int)⟩
def jX:jS b6:=⟨λx=>[.int .i64 x.bz,.int .i64 x.br],2,λ_=>rfl,λ_=>rfl,λ_=>rfl⟩
def i0(a b:b6):Bool:=decide (a.bz=b.bz)&&(decide (a.br=b.br)&&true)
structure bB where
 Hop:b6
 c6:Int
instance:Inhabited bB:=⟨bB.mk (b6.mk (0:Int) (0:Int)) (0:Int)⟩
def dN:jS bB:=⟨λx=>[.int .i64 x.Hop.bz,.int .i64 x.Hop.br,.int .i64 x.c6],3,λ_=>rfl,λ_=>rfl,λ_=>rfl⟩
structure eD where
 L:List Int
 At:Int
instance:Inhabited eD:=⟨eD.mk [] (0:Int)⟩
structure hq where
 mH:Int
 Links:List b6
instance:Inhabited hq:=⟨hq.mk (0:Int) []⟩
structure vj where
 bz:Int
 br:Int
 Count:Int
instance:Inhabited vj:=⟨vj.mk (0:Int) (0:Int) (0:Int)⟩
structure ey where
 gX:Int
 lB:Int
instance:Inhabited ey:=⟨ey.mk (0:Int) (0:Int)⟩
def e7:jS ey:=⟨λx=>[.int .i64 x.gX,.int .i64 x.lB],2,λ_=>rfl,λ_=>rfl,λ_=>rfl⟩
structure fe where
 bC:List Int
 Value:Int
instance:Inhabited fe:=⟨fe.mk [] (0:Int)⟩
def g1:jS fe:=⟨λx=>[.bf false (ax aI x.bC),.int .i64 x.Value],2,λ_=>rfl,λ_=>rfl,λ_=>rfl⟩
structure qm where
 mH:Int
 BF:List Int
 wT:Int
instance:Inhabited qm:=⟨qm.mk (0:Int) [] (0:Int)⟩
structure xg where
 CN:List (Int×List ey)
 VK:List (Int×List ey)
instance:Inhabited xg:=⟨xg.mk [] []⟩
structure gu where
 e4:Int
 Jw:Int
 qE:Int
instance:Inhabited gu:=⟨gu.mk (0:Int) (0:Int) (0:Int)⟩
def Ic:jS gu:=⟨λx=>[.int .i64 x.e4,.int .i64 x.Jw,.int .i64 x.qE],3,λ_=>rfl,λ_=>rfl,λ_=>rfl⟩
def Wl:e6:=⟨1,false,some [zI0],.int .i64⟩
def amJ:fk prog 2 Wl:=⟨Ns,λzs h=>by cases h;exact aoq,underlying2⟩
def Wm:e6:=⟨1,false,some [zI0],.int .i64⟩
def amR:fk prog 3 Wm:=⟨nn,λzs h=>by cases h;exact Xi,underlying3⟩
def Wn:e6:=⟨1,false,some [.bool false],.bool⟩
def amY:fk prog 4 Wn:=⟨Fc,λzs h=>by cases h;exact Xj,underlying4⟩
def Wo:e6:=⟨1,false,some [.int .u8 0],.int .u8⟩
def amZ:fk prog 5 Wo:=⟨anq,λzs h=>by cases h;exact aoD,underlying5⟩
def Wp:e6:=⟨1,false,some [.int .u8 0],.int .u8⟩
def am0:fk prog 6 Wp:=⟨Nt,λzs h=>by cases h;exact aoE,underlying6⟩
def Wq:e6:=⟨4,true,some [zI0,zI0,.bool false,.int .u8 0],.struct [zI0,zI0,.bool false,.int .u8 0] [(0,1),(1,1),(2,1),(3,1)] [false,false,false,false]⟩
def am3:fk prog 7 Wq:=⟨ant,λzs h=>by cases h;exact aoG,mV amm ⟨acM,acN,acO,acP,trivial⟩ ⟨acQ,acR,acS,acT,trivial⟩⟩
def Wr:e6:=⟨4,true,some [zI0,zI0,.bool false,.int .u8 0],.struct [zI0,zI0,.bool false,.int .u8 0] [(0,1),(1,1),(2,1),(3,1)] [false,false,false,false]⟩
def am4:fk prog 8 Wr:=⟨anu,λzs h=>by cases h;exact aoH,mV amn ⟨acU,acs,acu,acv,trivial⟩ ⟨acw,acy,acz,acA,trivial⟩⟩
def Ws:e6:=⟨1,false,some [.string ⟨#[]⟩],.str⟩
def am7:fk prog 9 Ws:=⟨Nu,λzs h=>by cases h;exact aoJ,underlying9⟩
def TX:e6:=⟨1,false,some [.string ⟨#[]⟩],.str⟩
def amz:fk prog 10 TX:=⟨am8,λzs h=>by cases h;exact aog,underlying10⟩
def TY:e6:=⟨1,false,some [.string ⟨#[]⟩],.str⟩
def amA:fk prog 11 TY:=⟨am9,λzs h=>by cases h;exact aoh,underlying11⟩
def TZ:e6:=⟨1,false,some [.int .u64 0],.int .u64⟩
def amB:fk prog 12 TZ:=⟨KD,λzs h=>by cases h;exact aoi,underlying12⟩
def T0:e6:=⟨2,true,some [.string ⟨#[]⟩,.int .u64 0],.struct [.string ⟨#[]⟩,.int .u64 0] [(0,1),(1,1)] [false,false]⟩
def amC:fk prog 13 T0:=⟨ana,λzs h=>by cases h;exact aoj,mV afp ⟨aaY,aaZ,trivial⟩ ⟨aa0,aa1,trivial⟩⟩
def T1:e6:=⟨2,true,some [.string ⟨#[]⟩,.int .u64 0],.struct [.string ⟨#[]⟩,.int .u64 0] [(0,1),(1,1)] [false,false]⟩
def amD:fk prog 14 T1:=⟨anb,λzs h=>by cases h;exact aok,mV afq ⟨aa2,aa3,trivial⟩ ⟨aa4,aa5,trivial⟩⟩
def T2:e6:=⟨1,false,some [.pointer none],.pq⟩
def amE:fk prog 15 T2:=⟨anc,λzs h=>by cases h;exact aol,trivial⟩
def TJ:e6:=⟨1,false,some [.pointer none],.pq⟩
def amF:fk prog 16 TJ:=⟨ane,λzs h=>by cases h;exact aom,trivial⟩
def TK:e6:=⟨1,false,some [.pointer none],.pq⟩
def amG:fk prog 17 TK:=⟨KE,λzs h=>by cases h;exact aon,trivial⟩
def TL:e6:=⟨1,true,some [.pointer none],.struct [.pointer none] [(0,1)] [false]⟩
def amH:fk prog 18 TL:=⟨anf,λzs h=>by cases h;exact aoo,mV afr ⟨aa6,trivial⟩ ⟨aa7,trivial⟩⟩
def TM:e6:=⟨1,true,some [.pointer none],.struct [.pointer none] [(0,1)] [false]⟩
def amI:fk prog 19 TM:=⟨ang,λzs h=>by cases h;exact aop,mV afs ⟨aa8,trivial⟩ ⟨aa9,trivial⟩⟩
def TN:e6:=⟨1,false,some [.int .i32 0],.int .i32⟩
def amK:fk prog 21 TN:=⟨anh,λzs h=>by cases h;exact aor,underlying21⟩
def TO:e6:=⟨1,false,some [zS0],.slice 3 1 8 [zI0]⟩
def amL:fk prog 22 TO:=⟨KF,λzs h=>by cases h;exact aos,⟨amd,FP,SU⟩⟩
def TP:e6:=⟨1,false,some [.pointer none],.pq⟩
def amM:fk prog 23 TP:=⟨ani,λzs h=>by cases h;exact aot,trivial⟩
def TQ:e6:=⟨1,false,some [zS0],.slice 31 2 16 [zI0,.bool false]⟩
def amN:fk prog 25 TQ:=⟨KG,λzs h=>by cases h;exact aou,⟨ame,aft,afu⟩⟩
def TR:e6:=⟨1,false,some [zS0],.slice 62 5 40 [zI0,zI0,zI0,zI0,zI0]⟩
def amO:fk prog 26 TR:=⟨KH,λzs h=>by cases h;exact aov,⟨amf,afv,afw⟩⟩
def TS:e6:=⟨2,true,some [zS0,zS0],.struct [zS0,zS0] [(0,1),(1,1)] [false,false]⟩
def amP:fk prog 27 TS:=⟨anj,λzs h=>by cases h;exact aow,mV afx ⟨aba,abb,trivial⟩ ⟨abc,abd,trivial⟩⟩
def Ua:e6:=⟨2,true,some [zS0,zS0],.struct [zS0,zS0] [(0,1),(1,1)] [false,false]⟩
def amQ:fk prog 28 Ua:=⟨ank,λzs h=>by cases h;exact aox,mV afy ⟨abe,abf,trivial⟩ ⟨abg,abh,trivial⟩⟩
def Ub:e6:=⟨2,true,some [zI0,.bool false],.struct [zI0,.bool false] [(0,1),(1,1)] [false,false]⟩
def amS:fk prog 30 Ub:=⟨anl,λzs h=>by cases h;exact aoy,mV afz ⟨aaI,aaJ,trivial⟩ ⟨aaK,aaL,trivial⟩⟩
def Uc:e6:=⟨2,true,some [zI0,.bool false],.struct [zI0,.bool false] [(0,1),(1,1)] [false,false]⟩
def amT:fk prog 31 Uc:=⟨anm,λzs h=>by cases h;exact Tq,mV afA ⟨aaM,aaN,trivial⟩ ⟨aaO,aaP,trivial⟩⟩
def Ud:e6:=⟨1,false,some [zS0],.slice 84 2 16 [zI0,zI0]⟩
def amU:fk prog 34 Ud:=⟨KI,λzs h=>by cases h;exact aoz,⟨amg,afB,afD⟩⟩
def Ue:e6:=⟨2,true,some [zI0,zS0],.struct [zI0,zS0] [(0,1),(1,1)] [false,false]⟩
def amV:fk prog 35 Ue:=⟨ann,λzs h=>by cases h;exact aoA,mV afE ⟨aaQ,aaR,trivial⟩ ⟨abZ,ab0,trivial⟩⟩
def Uf:e6:=⟨2,true,some [zI0,zS0],.struct [zI0,zS0] [(0,1),(1,1)] [false,false]⟩
def amW:fk prog 36 Uf:=⟨ano,λzs h=>by cases h;exact aoB,mV afF ⟨ab1,ab2,trivial⟩ ⟨ab3,ab4,trivial⟩⟩
def Ug:e6:=⟨1,false,some [zI0],.int .i64⟩
def amX:fk prog 37 Ug:=⟨anp,λzs h=>by cases h;exact aoC,underlying37⟩
def Uh:e6:=⟨5,true,some [zI0,zI0,zI0,zI0,zI0],.struct [zI0,zI0,zI0,zI0,zI0] [(0,1),(1,1),(2,1),(3,1),(4,1)] [false,false,false,false,false]⟩
def am1:fk prog 62 Uh:=⟨anr,λzs h=>by cases h;exact Tr,mV afG ⟨ab5,ab6,ab7,ab8,ab9,trivial⟩ ⟨acc,acd,ace,acf,acg,trivial⟩⟩
def Ui:e6:=⟨1,false,some [.nilFunc],.pq⟩
def am2:fk prog 63 Ui:=⟨ans,λzs h=>by cases h;exact aoF,trivial⟩
def Uj:e6:=⟨2,true,some [zI0,zI0],.struct [zI0,zI0] [(0,1),(1,1)] [false,false]⟩
def am5:fk prog 84 Uj:=⟨Tl,λzs h=>by cases h;exact Ts,mV afH ⟨ach,aci,trivial⟩ ⟨acj,ack,trivial⟩⟩
def Uk:e6:=⟨1,false,some [zS0],.slice 120 2 32 [zS0,zI0]⟩
def am6:fk prog 85 Uk:=⟨anv,λzs h=>by cases h;exact aoI,⟨amh,afI,afJ⟩⟩
def Sl:e6:=⟨2,true,some [zS0,zI0],.struct [zS0,zI0] [(0,1),(1,1)] [false,false]⟩
def agp:fk prog 103 Sl:=⟨afK,λzs h=>by cases h;exact aeS,mV acB ⟨ZM,ZN,trivial⟩ ⟨ZO,ZP,trivial⟩⟩
def Sm:e6:=⟨1,false,some [zS0],.slice 106 1 24 [zS0]⟩
def agq:fk prog 105 Sm:=⟨afL,λzs h=>by cases h;exact afP,⟨x7,RB,Rq⟩⟩
def Sn:e6:=⟨1,false,some [zS0],.slice 4 1 1 [.bool false]⟩
def agr:fk prog 106 Sn:=⟨Fx,λzs h=>by cases h;exact SN,⟨afM,Rr,Rs⟩⟩
def Sq:e6:=⟨1,false,some [zS0],.slice 175 3 24 [zI0,zI0,zI0]⟩
def ags:fk prog 111 Sq:=⟨SV,λzs h=>by cases h;exact afQ,⟨afN,acC,adH⟩⟩
def Sr:e6:=⟨2,true,some [zS0,zI0],.struct [zS0,zI0] [(0,1),(1,1)] [false,false]⟩
def agt:fk prog 120 Sr:=⟨afO,λzs h=>by cases h;exact SO,mV adI ⟨Zd,Ze,trivial⟩ ⟨Zf,Zg,trivial⟩⟩
def Ss:e6:=⟨1,false,some [.map none],.map 3 3 .i64⟩
def agu:fk prog 144 Ss:=⟨Cv,λzs h=>by cases h;exact SP,o5⟩
def St:e6:=⟨1,false,some [.nilFunc],.pq⟩
def agv:fk prog 158 St:=⟨aff,λzs h=>by cases h;exact afR,trivial⟩
def Su:e6:=⟨1,false,some [.pointer none],.pq⟩
def agw:fk prog 161 Su:=⟨afg,λzs h=>by cases h;exact afS,trivial⟩
def Sv:e6:=⟨1,false,some [zS0],.slice 144 1 8 [.map none]⟩
def agx:fk prog 162 Sv:=⟨SX,λzs h=>by cases h;exact afT,⟨Cx,Rt,adJ⟩⟩
def Sw:e6:=⟨1,false,some [zS0],.slice 166 1 8 [.map none]⟩
def agy:fk prog 163 Sw:=⟨SY,λzs h=>by cases h;exact afU,⟨SZ,Ru,adK⟩⟩
def Sx:e6:=⟨3,true,some [zS0,zS0,zS0],.struct [zS0,zS0,zS0] [(0,1),(1,1),(2,1)] [false,false,false]⟩
def agz:fk prog 165 Sx:=⟨afh,λzs h=>by cases h;exact afV,mV adL ⟨Zh,Zi,Zj,trivial⟩ ⟨Zk,Zl,Zm,trivial⟩⟩
def Sy:e6:=⟨1,false,some [.map none],.map 3 169 .i64⟩
def agA:fk prog 166 Sy:=⟨S0,λzs h=>by cases h;exact SQ,Fo⟩
def Sz:e6:=⟨2,true,some [zI0,zI0],.struct [zI0,zI0] [(0,1),(1,1)] [false,false]⟩
def agB:fk prog 169 Sz:=⟨afi,λzs h=>by cases h;exact afW,mV adM ⟨Zn,Zo,trivial⟩ ⟨Zp,Zq,trivial⟩⟩
def SA:e6:=⟨1,false,some [.nilFunc],.pq⟩
def agC:fk prog 172 SA:=⟨afj,λzs h=>by cases h;exact afX,trivial⟩
def SB:e6:=⟨3,true,some [zI0,zI0,zI0],.struct [zI0,zI0,zI0] [(0,2),(2,1)] [true,false]⟩
def agD:fk prog 175 SB:=⟨afk,λzs h=>by cases h;exact SR,mV adN ⟨Zr,Zs,trivial⟩ ⟨Zt,Zu,trivial⟩⟩
def SC:e6:=⟨1,false,some [.nilFunc],.pq⟩
def agE:fk prog 177 SC:=⟨afl,λzs h=>by cases h;exact afY,trivial⟩
def SD:e6:=⟨1,false,some [.int .u64 0],.int .u64⟩
def agF:fk prog 178 SD:=⟨afm,λzs h=>by cases h;exact afZ,underlying178⟩
def SE:e6:=⟨3,true,some [zI0,zI0,zI0],.pq⟩
def agG:fk prog 179 SE:=⟨afn,λzs h=>by cases h;exact z1,trivial⟩
def SF:e6:=⟨1,false,some [zS0],.slice 179 3 24 [zI0,zI0,zI0]⟩
def agH:fk prog 180 SF:=⟨afo,λzs h=>by cases h;exact af0,⟨agO,adO,adP⟩⟩
def SG:e6:=⟨1,false,some [.nilFunc],.pq⟩
def agI:fk prog 185 SG:=⟨agP,λzs h=>by cases h;exact af1,trivial⟩
def SH:e6:=⟨1,false,some [.nilFunc],.pq⟩
def agJ:fk prog 187 SH:=⟨agQ,λzs h=>by cases h;exact af2,trivial⟩
def SI:e6:=⟨1,false,some [.nilFunc],.pq⟩
def agK:fk prog 188 SI:=⟨agR,λzs h=>by cases h;exact af3,trivial⟩
def SJ:e6:=⟨1,false,some [.nilFunc],.pq⟩
def agL:fk prog 190 SJ:=⟨agS,λzs h=>by cases h;exact af4,trivial⟩
def R8:e6:=⟨1,false,some [.map none],.map 3 234 .i64⟩
def agM:fk prog 208 R8:=⟨Ke,λzs h=>by cases h;exact af5,pQ⟩
def R9:e6:=⟨2,true,some [.map none,.map none],.struct [.map none,.map none] [(0,1),(1,1)] [false,false]⟩
def agN:fk prog 210 R9:=⟨agT,λzs h=>by cases h;exact af6,mV adQ ⟨Zv,Zw,trivial⟩ ⟨Zx,Zy,trivial⟩⟩
def Sa:e6:=⟨1,false,some [.nilFunc],.pq⟩
def agd:fk prog 216 Sa:=⟨agU,λzs h=>by cases h;exact af7,trivial⟩
def Sb:e6:=⟨1,false,some [zS0],.slice 237 2 16 [zI0,zI0]⟩
def age:fk prog 234 Sb:=⟨agV,λzs h=>by cases h;exact af8,⟨agW,adR,adS⟩⟩
def Sc:e6:=⟨2,true,some [zI0,zI0],.struct [zI0,zI0] [(0,1),(1,1)] [false,false]⟩
def agf:fk prog 237 Sc:=⟨agX,λzs h=>by cases h;exact SS,mV adT ⟨Zz,ZA,trivial⟩ ⟨ZB,ZC,trivial⟩⟩
def Sd:e6:=⟨1,false,some [.nilFunc],.pq⟩
def agh:fk prog 239 Sd:=⟨agY,λzs h=>by cases h;exact af9,trivial⟩
def Se:e6:=⟨1,false,some [zI0],.int .i64⟩
def agi:fk prog 245 Se:=⟨agZ,λzs h=>by cases h;exact aga,underlying245⟩
def Sf:e6:=⟨1,false,some [.int .u32 0],.int .u32⟩
def agj:fk prog 252 Sf:=⟨ag0,λzs h=>by cases h;exact agb,underlying252⟩
def Sg:e6:=⟨1,false,some [.int .u64 0],.int .u64⟩
def agk:fk prog 254 Sg:=⟨ag1,λzs h=>by cases h;exact agc,underlying254⟩
def bP:g4:=[(2,Wl),(3,Wm),(4,Wn),(5,Wo),(6,Wp),(7,Wq),(8,Wr),(9,Ws),(10,TX),(11,TY),(12,TZ),(13,T0),(14,T1),(15,T2),(16,TJ),(17,TK),(18,TL),(19,TM),(21,TN),(22,TO),(23,TP),(25,TQ),(26,TR),(27,TS),(28,Ua),(30,Ub),(31,Uc),(34,Ud),(35,Ue),(36,Uf),(37,Ug),(62,Uh),(63,Ui),(84,Uj),(85,Uk),(103,Sl),(105,Sm),(106,Sn),(111,Sq),(120,Sr),(144,Ss),(158,St),(161,Su),(162,Sv),(163,Sw),(165,Sx),(166,Sy),(169,Sz),(172,SA),(175,SB),(177,SC),(178,SD),(179,SE),(180,SF),(185,SG),(187,SH),(188,SI),(190,SJ),(208,R8),(210,R9),(216,Sa),(234,Sb),(237,Sc),(239,Sd),(245,Se),(252,Sf),(254,Sg)]
def bS:jT prog bP:=⟨ako,⟨amJ,amR,amY,amZ,am0,am3,am4,am7,amz,amA,amB,amC,amD,amE,amF,amG,amH,amI,amK,amL,amM,amN,amO,amP,amQ,amS,amT,amU,amV,amW,amX,am1,am2,am5,am6,agp,agq,agr,ags,agt,agu,agv,agw,agx,agy,agz,agA,agB,agC,agD,agE,agF,agG,agH,agI,agJ,agK,agL,agM,agN,agd,age,agf,agh,agi,agj,agk,trivial⟩⟩
def aiz:c8 prog 12:=⟨call12⟩
def aiA:c8 prog 13:=⟨call13⟩
def uj:c8 prog 14:=⟨call14⟩
def Ul:c8 prog 15:=⟨call15⟩
def Dc:c8 prog 16:=⟨call16⟩
def KU:c8 prog 18:=⟨call18⟩
def aiB:c8 prog 26:=⟨call26⟩
def KV:c8 prog 28:=⟨call28⟩
def Um:c8 prog 46:=⟨call46⟩
def aiC:c8 prog 47:=⟨call47⟩
def Un:c8 prog 48:=⟨call48⟩
def aiD:c8 prog 49:=⟨call49⟩
def Ge:c8 prog 59:=⟨call59⟩
def aiE:c8 prog 60:=⟨call60⟩
def aiF:c8 prog 61:=⟨call61⟩
def KW:c8 prog 62:=⟨call62⟩
def aiG:c8 prog 63:=⟨call63⟩
def KX:c8 prog 64:=⟨call64⟩
def Uo:c8 prog 69:=⟨call69⟩
def KY:c8 prog 71:=⟨call71⟩
def Up:c8 prog 73:=⟨call73⟩
def KZ:c8 prog 74:=⟨call74⟩
def Dd:c8 prog 76:=⟨call76⟩
def Uq:c8 prog 77:=⟨call77⟩
def K0:c8 prog 79:=⟨call79⟩
def agl:c8 prog 102:=⟨call102⟩
def agm:c8 prog 103:=⟨call103⟩
def agn:c8 prog 104:=⟨call104⟩
def ahO:c8 prog 105:=⟨call105⟩
def wB:c8 prog 106:=⟨call106⟩
def ahP:c8 prog 107:=⟨call107⟩
def ahQ:c8 prog 108:=⟨call108⟩
def ahR:c8 prog 109:=⟨call109⟩
def ahS:c8 prog 110:=⟨call110⟩
def x9:c8 prog 119:=⟨call119⟩
def wC:c8 prog 120:=⟨call120⟩
def Sh:c8 prog 121:=⟨call121⟩
def FT:c8 prog 122:=⟨call122⟩
def ahT:c8 prog 123:=⟨call123⟩
def ahU:c8 prog 124:=⟨call124⟩
def Kn:c8 prog 126:=⟨call126⟩
def ahV:c8 prog 127:=⟨call127⟩
def S1:c8 prog 129:=⟨call129⟩
def ahW:c8 prog 131:=⟨call131⟩
def ahX:c8 prog 132:=⟨call132⟩
def ahY:c8 prog 133:=⟨call133⟩
def z7:c8 prog 134:=⟨call134⟩
def Ko:c8 prog 135:=⟨call135⟩
def S2:c8 prog 136:=⟨call136⟩
def S3:c8 prog 137:=⟨call137⟩
def Kq:c8 prog 138:=⟨call138⟩
def ahZ:c8 prog 139:=⟨call139⟩
def ah0:c8 prog 140:=⟨call140⟩
def ah1:c8 prog 141:=⟨call141⟩
def ah2:c8 prog 144:=⟨call144⟩
def ah3:c8 prog 145:=⟨call145⟩
def ah4:c8 prog 146:=⟨call146⟩
def z8:c8 prog 147:=⟨call147⟩
def FU:c8 prog 148:=⟨call148⟩
def ah5:c8 prog 160:=⟨call160⟩
def ah6:c8 prog 161:=⟨call161⟩
def ah7:c8 prog 162:=⟨call162⟩
def ah8:c8 prog 163:=⟨call163⟩
def S4:c8 prog 164:=⟨call164⟩
def aho:c8 prog 165:=⟨call165⟩
def ahp:c8 prog 166:=⟨call166⟩
def S5:c8 prog 167:=⟨call167⟩
def ahq:c8 prog 168:=⟨call168⟩
def ahr:c8 prog 169:=⟨call169⟩
def ahs:c8 prog 170:=⟨call170⟩
def aht:c8 prog 171:=⟨call171⟩
def S6:c8 prog 172:=⟨call172⟩
def ahu:c8 prog 178:=⟨call178⟩
def ahv:c8 prog 180:=⟨call180⟩
def ahw:c8 prog 181:=⟨call181⟩
def ahx:c8 prog 182:=⟨call182⟩
def ahy:c8 prog 188:=⟨call188⟩
def S7:c8 prog 190:=⟨call190⟩
def FV:c8 prog 191:=⟨call191⟩
def ahz:c8 prog 192:=⟨call192⟩
def ahA:c8 prog 195:=⟨call195⟩
def ahB:c8 prog 207:=⟨call207⟩
def ahC:c8 prog 216:=⟨call216⟩
def ahD:c8 prog 233:=⟨call233⟩
def ahE:c8 prog 234:=⟨call234⟩
def Kr:c8 prog 257:=⟨call257⟩
def bp{N:Nat}{ids:List Nat}{y:Code}{bq:Exit→ah→Y→Prop}{env:ah}{σ:Y}{id:Nat}{ops:Array Oper}{ff:Bool}(X:List (Nat×Hint prog))(dB:ah)(σ2:Y)(k:aS ⟨prog,N,ids⟩ y bq dB σ2)
  (h:wN bP N ids ops ff (lf ops ff X).1 (lf ops ff X).2 [] X (rW dB) σ2.ids env σ=some (dB,σ2,(lf ops ff X).2.map λi=>(hintOf X i).exp):=by kernel_rfl):aS ⟨prog,N,ids⟩ (.seq (.region id ops ff) y) bq env σ:=asx bS [] X dB σ2 h k
def B3{N:Nat}{ids:List Nat}{bq:Exit→ah→Y→Prop}{env:ah}{σ:Y}{id:Nat}{ops:Array Oper}{ff:Bool}(X:List (Nat×Hint prog))(dB:ah)(σ2:Y)(k:bq .normal dB σ2)
  (h:wN bP N ids ops ff (lf ops ff X).1 (lf ops ff X).2 [] X (rW dB) σ2.ids env σ=some (dB,σ2,(lf ops ff X).2.map λi=>(hintOf X i).exp):=by kernel_rfl):aS ⟨prog,N,ids⟩ (.region id ops ff) bq env σ:=A.R bS [] X dB σ2 h k
def Ur(n:Nat):List Nat→Bool
 |[]=>false
 |k::r=>bif Nat.beq k n then true else Ur n r
def nK{α:Type}(ks:List Nat)(new:List (Nat×α)):List (Nat×α)→List (Nat×α)
 |[]=>new
 |p::l=>bif Ur p.1 ks then nK ks new l else p::nK ks new l
section
variable {N:Nat}{ids:List Nat}{y:Code}{bq:Exit→ah→Y→Prop}{env:ah}{σ:Y}{id:Nat}{ops:Array Oper}{ff:Bool}(X:List (Nat×Hint prog))(ks:List Nat)(new:ah)(Bm:List Nat)(BH:Y)
def fs(k:aS ⟨prog,N,ids⟩ y bq (nK ks new env) (nK Bm BH σ))
  (h:wN bP N ids ops ff (lf ops ff X).1 (lf ops ff X).2 [] X (rW (nK ks new env)) (Y.ids (nK Bm BH σ)) env σ=some (nK ks new env,nK Bm BH σ,(lf ops ff X).2.map λi=>(hintOf X i).exp):=by kernel_rfl):aS ⟨prog,N,ids⟩ (.seq (.region id ops ff) y) bq env σ:=asx bS [] X _ _ h k
def bh(k:aS ⟨prog,N,ids⟩ y bq (nK ks new env) σ)
  (h:wN bP N ids ops ff (lf ops ff X).1 (lf ops ff X).2 [] X (rW (nK ks new env)) σ.ids env σ=some (nK ks new env,σ,(lf ops ff X).2.map λi=>(hintOf X i).exp):=by kernel_rfl):aS ⟨prog,N,ids⟩ (.seq (.region id ops ff) y) bq env σ:=asx bS [] X _ _ h k
def jj(k:bq .normal (nK ks new env) (nK Bm BH σ))
  (h:wN bP N ids ops ff (lf ops ff X).1 (lf ops ff X).2 [] X (rW (nK ks new env)) (Y.ids (nK Bm BH σ)) env σ=some (nK ks new env,nK Bm BH σ,(lf ops ff X).2.map λi=>(hintOf X i).exp):=by kernel_rfl):aS ⟨prog,N,ids⟩ (.region id ops ff) bq env σ:=A.R bS [] X _ _ h k
def dV(k:bq .normal (nK ks new env) σ)
  (h:wN bP N ids ops ff (lf ops ff X).1 (lf ops ff X).2 [] X (rW (nK ks new env)) σ.ids env σ=some (nK ks new env,σ,(lf ops ff X).2.map λi=>(hintOf X i).exp):=by kernel_rfl):aS ⟨prog,N,ids⟩ (.region id ops ff) bq env σ:=A.R bS [] X _ _ h k
end
def de{N:Nat}{ids:List Nat}{fn:Func}{env:ah}{σ σ2:Y}{R:Q}(h:KO bP ids [] σ2.ids fn.results.toList env σ=some (R,σ2):=by kernel_rfl):
  pW ⟨prog,N,ids⟩ fn (λa az=>a=R∧az=σ2) .ret env σ:=asy bS [] rfl h
variable {G:ch}
def gw{env dB:ah}{σ σ2:Y}(h:Cm G.ids [] [] (rW dB) σ2.ids env σ=some (dB,σ2):=by kernel_rfl):cr G env σ dB σ2:=cr.go [] [] h
variable {aZ:Type}{r:aZ}
def cR{α:Type}{J:α→Option aZ}{env:ah}{σ:Y}{fI:α→ah}{fV:α→Y}(g:α)(bu:J g=some r)(h:Cm G.ids [] [] (rW (fI g)) (fV g).ids env σ=some (fI g,fV g):=by kernel_rfl):
  ∃g,J g=some r∧cr G env σ (fI g) (fV g):=⟨g,bu,cr.go [] [] h⟩
variable {o:Operand}
def cm{p:Bool}{x y:Code}{bq:Exit→ah→Y→Prop}{env:ah}{σ:Y}(aC:p=true)(k:aS G x bq env σ)(af:env.cW o=some (.bool p):=by kernel_rfl):aS G (.cond o x y) bq env σ:=asC af aC k
def ck{p:Bool}{x y:Code}{bq:Exit→ah→Y→Prop}{env:ah}{σ:Y}(aC:p=false)(k:aS G y bq env σ)(af:env.cW o=some (.bool p):=by kernel_rfl):aS G (.cond o x y) bq env σ:=asA af aC k
def kK{env dB:ah}{σ σ2:Y}(kJ:List oO)(sl:List Nat)(h:Cm G.ids kJ sl (rW dB) σ2.ids env σ=some (dB,σ2):=by kernel_rfl):cr G env σ dB σ2:=Qn h
def arG{p:Bool}{x y:Code}{bq:Exit→ah→Y→Prop}{env:ah}{σ:Y}{s t:Option aZ}(hm:(bif p then s else t)=some r)(gv:p=true→s=some r→aS G x bq env σ)(cK:p=false→t=some r→aS G y bq env σ)(af:env.cW o=some (.bool p):=by kernel_rfl):aS G (.cond o x y) bq env σ:=by
 rcases cD hm with⟨h,hm⟩|⟨h,hm⟩
 ·exact asC af h (gv h hm)
 ·exact asA af h (cK h hm)
abbrev Q.d(p:Prop)[Decidable p]:Q:=.bool (decide p)
abbrev cc.c(T:TypeId)(cs:List Q):cc:=.cells T cs
abbrev W(n:Int):Q:=.int .i64 n
abbrev bO{α:Type}(e:jS α)(l:List α):Q:=.bf false (ax e l)
abbrev rR(x:dQ):List Q:=[.int .i64 x.cu,.bool x.IY]
abbrev gv(x:dR):List Q:=[.int .i64 x.A,.int .i64 x.B,.int .i64 x.kP,.int .i64 x.kQ,.int .i64 x.sH]
abbrev cK(x:bA):List Q:=[.bf false (ax ec x.bC),.bf false (ax eT x.Links)]
abbrev pT(x:b6):List Q:=[.int .i64 x.bz,.int .i64 x.br]
abbrev vX(x:bB):List Q:=[.int .i64 x.Hop.bz,.int .i64 x.Hop.br,.int .i64 x.c6]
abbrev iS(x:eD):List Q:=[.bf false (ax aI x.L),.int .i64 x.At]
abbrev vY(x:hq):List Q:=[.int .i64 x.mH,.bf false (ax jX x.Links)]
abbrev Bn(x:ey):List Q:=[.int .i64 x.gX,.int .i64 x.lB]
abbrev vZ(x:fe):List Q:=[.bf false (ax aI x.bC),.int .i64 x.Value]
abbrev wX:=List bB
abbrev xQ:=List ey
abbrev zu:=List b6
abbrev zy:=List fe
abbrev Aw:=List dR
abbrev Ax:=List dQ
end
section
set_option linter.all false
open Go List
section
structure w4(A:Type) where
 src:A→Int
 dst:A→Int
 cost:A→Int
section net
variable {A:Type}[DecidableEq A](N:w4 A)
inductive eL(H:List A):Int→Int→Prop
 |refl (v:Int):eL H v v
 |step {aA:Int} (a:A) (ay:a∈H) (h:eL H (N.dst a) aA):eL H (N.src a) aA
def gB(H:List A):Int:=(H.map N.cost).sum
variable {N}
def eL.mono{H K:List A}{v aA:Int}(h:eL N H v aA)(X:∀a∈H,a∈K):eL N K v aA:=by
 induction h with
 |refl v=>exact .refl v
 |step a ay _ bg=>exact .step a (X a ay) bg
def eL.trans{H:List A}{v aA t:Int}(h:eL N H v aA)(D:eL N H aA t):eL N H v t:=by
 induction h with
 |refl v=>exact D
 |step a ay _ bg=>exact .step a ay (bg D)
def eL.one{H:List A}{a:A}(ay:a∈H):eL N H (N.src a) (N.dst a):=.step a ay (.refl _)
def Z1(v:Int){H:List A}{x t:Int}(h:eL N H x t):eL N (H.filter λa=>!decide (N.src a=v)) x t∨∃e∈H,N.src e=v∧eL N (H.filter λa=>!decide (N.src a=v)) (N.dst e) t:=by
 induction h with
 |refl v=>exact .inl (.refl v)
 |step a ay _ bg=>
  rcases bg with bg|bg
  ·by_cases aa:N.src a=v
   ·exact .inr ⟨a,ay,aa,bg⟩
   ·exact .inl (.step a (List.mem_filter.2 ⟨ay,by simp[aa]⟩) bg)
  ·exact .inr bg
def NB{H:List A}{v t:Int}(h:eL N H v t)(cb:v≠t):∃e∈H,N.src e=v∧eL N (H.filter λa=>!decide (N.src a=v)) (N.dst e) t:=by
 rcases Z1 v h with h|h
 ·generalize u:v=x at h;cases h with
  |refl _=>exact absurd u cb
  |step a ay h=>
   have:=(List.mem_filter.1 ay).2;simp at this
 ·exact h
def qM(a:A)(H:List A):gB N (a::H)=N.cost a+gB N H:=by simp[gB]
def WS(H K:List A):gB N (H++K)=gB N H+gB N K:=by
 induction H with
 |nil=>simp[gB]
 |cons a H bg=>rw[cons_append,qM,qM,bg];omega
def Nf{H:List A}(h:∀a∈H,0≤N.cost a):0≤gB N H:=by
 induction H with
 |nil=>simp[gB]
 |cons a H bg=>
  rw[qM];have h1:=h a (by simp);have D:=bg λb U=>h b (by simp[U]);omega
def Bv{e:A}:∀{H:List A},e∈H→gB N H=N.cost e+gB N (H.erase e)
 |[],h=>by cases h
 |a::H,h=>by
  by_cases ay:a=e
  ·subst ay;rw[erase_cons_head,qM]
  ·rw[erase_cons_tail (by simpa using ay),qM,qM,Bv (H:=H) (by
    rcases mem_cons.1 h with h|h
    ·exact absurd h.symm ay
    ·exact h)]
   omega
def W2(p:A→Bool):∀(H:List A),gB N H=gB N (H.filter p)+gB N (H.filter λa=>!p a)
 |[]=>rfl
 |a::H=>by
  rw[qM,W2 p H];cases aC:p a with
  |true=>rw[filter_cons_of_pos (by simp[aC]),filter_cons_of_neg (by simp[aC]),qM];omega
  |false=>rw[filter_cons_of_neg (by simp[aC]),filter_cons_of_pos (by simp[aC]),qM];omega
def Oz(p:Nat→Bool):∀k:Nat,∃m,m<2 ^ k∧∀i,m.testBit i=(decide (i<k)&&p i)
 |0=>⟨0,by simp,λi=>by simp⟩
 |k+1=>by
  obtain⟨m,h1,D⟩:=Oz p k;refine⟨m ||| (if p k then 2 ^ k else 0),Nat.or_lt_two_pow (Nat.lt_of_lt_of_le h1 (Nat.pow_le_pow_right (by omega) (by omega))) (by split;exact Nat.pow_lt_pow_right (by omega) (by omega);exact Nat.two_pow_pos _),λi=>?_⟩;rw[Nat.testBit_or,D];by_cases hi:i=k
  ·subst hi;cases aC:p i<;>simp
  ·have e:(if p k=true then 2 ^ k else 0).testBit i=false:=by
    split
    ·rw[Nat.testBit_two_pow];simp;omega
    ·simp
   rw[e];by_cases aH:i<k
   ·have:i<k+1:=by omega
    simp[aH,this]
   ·have:¬i<k+1:=by omega
    simp[aH,this]
def abO{S i:Nat}(h:S.testBit i=true):0<S:=by
 rcases Nat.eq_zero_or_pos S with bM|bM
 ·subst bM;simp at h
 ·exact bM
def Nz{S:Nat}(h:0<S):∃i,S.testBit i=true:=by
 apply Classical.byContradiction;intro aR
 have:S=0:=Nat.eq_of_testBit_eq λi=>by
  cases U:S.testBit i with
  |true=>exact absurd ⟨i,U⟩ aR
  |false=>simp
 omega
def JO{S k i:Nat}(h:S<2 ^ k)(U:S.testBit i=true):i<k:=by
 apply Classical.byContradiction;intro aR;rw[Nat.testBit_lt_two_pow (Nat.lt_of_lt_of_le h (Nat.pow_le_pow_right (by omega) (by omega)))]at U;cases U
def NC{S k:Nat}(fq:S<2 ^ k)(p:Nat→Bool):∃P R,P &&& R=0∧P ||| R=S∧(∀i,P.testBit i=(S.testBit i&&p i))∧∀i,R.testBit i=(S.testBit i&&!p i):=by
 obtain⟨P,_,h1⟩:=Oz (λi=>S.testBit i&&p i) k;obtain⟨R,_,D⟩:=Oz (λi=>S.testBit i&&!p i) k
 have hk:∀i,(decide (i<k)&&S.testBit i)=S.testBit i:=λi=>by
  cases U:S.testBit i with
  |true=>simp[JO fq U]
  |false=>simp
 have ak:∀i,P.testBit i=(S.testBit i&&p i):=λi=>by rw[h1,←Bool.and_assoc,hk]
 have ar:∀i,R.testBit i=(S.testBit i&&!p i):=λi=>by rw[D,←Bool.and_assoc,hk]
 refine⟨P,R,Nat.eq_of_testBit_eq λi=>?_,Nat.eq_of_testBit_eq λi=>?_,ak,ar⟩
 ·rw[Nat.testBit_and,ak,ar];cases S.testBit i<;>cases p i<;>simp
 ·rw[Nat.testBit_or,ak,ar];cases S.testBit i<;>cases p i<;>simp
def zN{S P R:Nat}(bM:P &&& R=0)(h:P ||| R=S)(cf:0<R):P<S:=by
 have h1:P≤S:=by rw[←h];exact Nat.left_le_or
 rcases Nat.lt_or_eq_of_le h1 with D|D
 ·exact D
 ·obtain⟨i,hi⟩:=Nz cf;have aj:(P ||| R).testBit i=P.testBit i:=by rw[h,D]
  have a1:(P &&& R).testBit i=false:=by rw[bM];simp
  rw[Nat.testBit_or,hi]at aj;rw[Nat.testBit_and,hi]at a1;simp at aj a1;rw[a1]at aj;cases aj
structure JD(N:w4 A)(L:List A)(k:Nat)(ts:Nat→Int)(C:Nat→Int→Int):Prop where
 pos:∀a∈L,0≤N.cost a
 one:∀i,i<k→C (2 ^ i) (ts i)≤0
 hop:∀S,0<S→S<2 ^ k→∀a∈L,C S (N.src a)≤N.cost a+C S (N.dst a)
 part:∀S P R,S<2 ^ k→0<P→0<R→P &&& R=0→P ||| R=S→∀v,C S v≤C P v+C R v
def JD.le{L:List A}{k:Nat}{ts:Nat→Int}{C:Nat→Int→Int}(h:JD N L k ts C):∀(n:Nat) (H:List A),H.length≤n→(∀a∈H,a∈L)→∀(S:Nat),0<S→S<2 ^ k→∀v,(∀i,S.testBit i=true→eL N H v (ts i))→C S v≤gB N H:=by
 classical
 intro n;induction n with
 |zero=>
  intro H aR mh S;have n2:H=[]:=eq_nil_of_length_eq_zero (by omega);subst n2;induction S using Nat.strongRecOn with
  |_ S zn=>
   intro fq tF v af;obtain⟨i,hi⟩:=Nz fq;have xq:=JO tF hi;have aa:v=ts i:=by
    have:=af i hi;cases this with
    |refl _=>rfl
    |step a ay _=>cases ay
   obtain⟨P,R,ak,ar,aM,aK⟩:=NC tF (λj=>decide (j=i))
   have oD:P=2 ^ i:=Nat.eq_of_testBit_eq λj=>by
    rw[aM,Nat.testBit_two_pow];by_cases aT:j=i
    ·subst aT;simp[hi]
    ·have:¬i=j:=λe=>aT e.symm;simp[aT,this]
   rcases Nat.eq_zero_or_pos R with cf|cf
   ·have:S=P:=by rw[←ar,cf];simp
    rw[this,oD,aa];have:=h.one i xq;simpa [gB]using this
   ·have h1:=h.part S P R tF (by rw[oD];exact Nat.two_pow_pos _) cf ak ar v;have D:=zn R (zN (by rw[Nat.and_comm];exact ak) (by rw[Nat.or_comm];exact ar) (by rw[oD];exact Nat.two_pow_pos _)) cf (by have:R≤S:=by{rw[←ar];exact Nat.right_le_or};omega) v (λj aT=>af j (by rw[aK]at aT;simp at aT;exact aT.1));have aj:=h.one i xq;rw[←aa,←oD]at aj;omega
 |succ n bg=>
  intro H aR mh S;have Vs:0≤gB N H:=Nf λa ay=>h.pos a (mh a ay);induction S using Nat.strongRecOn with
  |_ S zn=>
   intro fq tF v af;by_cases pJ:∃i,S.testBit i=true∧ts i=v
   ·obtain⟨i,hi,aa⟩:=pJ;have xq:=JO tF hi;obtain⟨P,R,ak,ar,aM,aK⟩:=NC tF (λj=>decide (j=i))
    have oD:P=2 ^ i:=Nat.eq_of_testBit_eq λj=>by
     rw[aM,Nat.testBit_two_pow];by_cases aT:j=i
     ·subst aT;simp[hi]
     ·have:¬i=j:=λe=>aT e.symm;simp[aT,this]
    have aj:=h.one i xq;rw[aa,←oD]at aj;rcases Nat.eq_zero_or_pos R with cf|cf
    ·have:S=P:=by rw[←ar,cf];simp
     rw[this];omega
    ·have h1:=h.part S P R tF (by rw[oD];exact Nat.two_pow_pos _) cf ak ar v;have D:=zn R (zN (by rw[Nat.and_comm];exact ak) (by rw[Nat.or_comm];exact ar) (by rw[oD];exact Nat.two_pow_pos _)) cf (by have:R≤S:=by{rw[←ar];exact Nat.right_le_or};omega) v (λj aT=>af j (by rw[aK]at aT;simp at aT;exact aT.1));omega
   ·have xz:∀i,S.testBit i=true→v≠ts i:=λi hi e=>pJ ⟨i,hi,e.symm⟩;obtain⟨o4,LY⟩:=Nz fq;obtain⟨e,he,LU,ajV⟩:=NB (af o4 LY) (xz o4 LY)
    have U7:∀a∈H.filter (λa=>!decide (N.src a=v)),a∈H.erase e:=λa ay=>by
     obtain⟨h1,D⟩:=List.mem_filter.1 ay;refine(List.mem_erase_of_ne λajr=>?_).2 h1;subst ajr;simp[LU]at D
    have akN:=ajV.mono U7;have ki:∀a∈H.erase e,a∈L:=λa ay=>mh a (List.mem_of_mem_erase ay);have eA:(H.erase e).length≤n:=by rw[length_erase_of_mem he];omega
    have aqM:=Bv (N:=N) he;obtain⟨P,R,ak,ar,aM,aK⟩:=NC tF (λi=>decide (eL N (H.erase e) (N.dst e) (ts i)));have ajl:P.testBit o4=true:=by rw[aM];simp[LY,akN]
    have GG:=abO ajl;rcases Nat.eq_zero_or_pos R with cf|cf
    ·have h1:=bg (H.erase e) eA ki S fq tF (N.dst e) (λi hi=>by
      have bV:=aK i;rw[cf,hi]at bV;simp at bV;exact bV)
     have D:=h.hop S fq tF e (mh e he);rw[LU]at D;omega
    ·let q:A→Bool:=λa=>decide (eL N (H.erase e) (N.dst e) (N.src a))
     have ajk:P<S:=zN ak ar cf;have aqn:R<S:=zN (by rw[Nat.and_comm];exact ak) (by rw[Nat.or_comm];exact ar) GG
     have stay:∀{x t:Int},eL N (H.erase e) x t→eL N (H.erase e) (N.dst e) x→eL N ((H.erase e).filter q) x t:=λ{x t} u=>by
      induction u with
      |refl v=>intro _;exact .refl v
      |step a ay _ bg=>intro hu;exact .step a (List.mem_filter.2 ⟨ay,decide_eq_true hu⟩) (bg (hu.trans (.one ay)))
     have off:∀{x t:Int},eL N (H.erase e) x t→¬eL N (H.erase e) (N.dst e) t→eL N ((H.erase e).filter λa=>!q a) x t:=λ{x t} u=>by
      induction u with
      |refl v=>intro _;exact .refl v
      |step a ay aB bg=>
       intro hu;refine .step a (List.mem_filter.2 ⟨ay,?_⟩) (bg hu);have:¬eL N (H.erase e) (N.dst e) (N.src a):=λbV=>hu (bV.trans (.step a ay aB));simp only[q,this,decide_false,Bool.not_false]
     have h1:=h.part S P R tF GG cf ak ar v;have tQ:=W2 (N:=N) q (H.erase e);have a1:gB N (e::(H.erase e).filter q)=N.cost e+gB N ((H.erase e).filter q):=qM _ _;have D:C P v≤gB N (e::(H.erase e).filter q):=by
      by_cases Vh:(e::(H.erase e).filter q).length≤n
      ·refine bg _ Vh (λa ay=>?_) P GG (by omega) v λi hi=>?_
       ·rcases mem_cons.1 ay with rfl|ay
        ·exact mh _ he
        ·exact ki a (List.mem_filter.1 ay).1
       ·rw[aM]at hi;simp only[Bool.and_eq_true,decide_eq_true_eq]at hi;rw[←LU];exact .step e (by simp) ((stay hi.2 (.refl _)).mono λa ay=>mem_cons.2 (.inr ay))
      ·
       have ny:gB N ((H.erase e).filter q)=gB N (H.erase e):=by
        have A5:=length_filter_le q (H.erase e);have k8:=length_erase_of_mem he;have hle:(H.erase e).length≤((H.erase e).filter q).length:=by
         simp only[length_cons]at Vh;omega
        rw[List.filter_eq_self.2 (length_filter_eq_length_iff.1 (by omega))]
       have bU:=zn P ajk GG (by omega) v (λi hi=>af i (by rw[aM]at hi;simp at hi;exact hi.1));omega
     have aj:C R v≤gB N ((H.erase e).filter λa=>!q a):=by
      refine bg _ (Nat.le_trans (length_filter_le _ _) eA) (λa ay=>ki a (List.mem_filter.1 ay).1) R cf (by omega) v λi hi=>?_;rw[aK]at hi;simp only[Bool.and_eq_true,Bool.not_eq_true',decide_eq_false_iff_not]at hi;obtain⟨e2,uM,AX,Lj⟩:=NB (af i hi.1) (xz i hi.1);have GD:=Lj.mono U7;have cb:e2≠e:=λh=>by subst h;exact hi.2 GD
      have Lk:e2∈H.erase e:=(List.mem_erase_of_ne cb).2 uM;refine off ?_ hi.2;rw[←AX];exact .step e2 Lk GD
     omega
end net
end
section
section net2
variable {A:Type}[DecidableEq A]{N:w4 A}
inductive nr(N:w4 A)(L:List A)(k:Nat)(ts:Nat→Int):Nat→Int→List A→Prop
 |one (i:Nat):i<k→nr N L k ts (2 ^ i) (ts i) []
 |hop {S:Nat} {H:List A} (a:A):a∈L→nr N L k ts S (N.dst a) H→nr N L k ts S (N.src a) (a::H)
 |part {P R:Nat} {v:Int} {H K:List A}:P &&& R=0→nr N L k ts P v H→nr N L k ts R v K→nr N L k ts (P ||| R) v (H++K)
def nr.sub{L:List A}{k:Nat}{ts:Nat→Int}{S:Nat}{v:Int}{H:List A}(h:nr N L k ts S v H):∀a∈H,a∈L:=by
 induction h with
 |one i _=>intro a ay;cases ay
 |hop a ay _ bg=>
  intro b U;rcases mem_cons.1 U with rfl|U
  ·exact ay
  ·exact bg b U
 |part _ _ _ h1 D=>
  intro b U;rcases List.mem_append.1 U with U|U
  ·exact h1 b U
  ·exact D b U
def nr.pF{L:List A}{k:Nat}{ts:Nat→Int}{S:Nat}{v:Int}{H:List A}(h:nr N L k ts S v H):∀i,S.testBit i=true→eL N H v (ts i):=by
 induction h with
 |one i _=>
  intro j aT;rw[Nat.testBit_two_pow]at aT;have:i=j:=by simpa using aT
  subst this;exact .refl _
 |hop a ay _ bg=>exact λi hi=>.step a (by simp) ((bg i hi).mono λb U=>mem_cons.2 (.inr U))
 |part _ _ _ h1 D=>
  intro i hi;rw[Nat.testBit_or,Bool.or_eq_true]at hi;rcases hi with hi|hi
  ·exact(h1 i hi).mono λb U=>List.mem_append.2 (.inl U)
  ·exact(D i hi).mono λb U=>List.mem_append.2 (.inr U)
structure lS(N:w4 A)(L:List A)(T:Int→Prop)(v:Int)(H:List A):Prop where
 sub:∀a∈H,a∈L
 pos:∀a∈L,0<N.cost a
 pF:∀t,T t→eL N H v t
 min:∀K,(∀a∈K,a∈L)→(∀t,T t→eL N K v t)→gB N H≤gB N K
variable {L:List A}{T:Int→Prop}{v:Int}{H:List A}
def lS.need(h:lS N L T v H){a:A}(ay:a∈H)(af:∀t,T t→eL N (H.erase a) v t):False:=by
 have h1:=h.min (H.erase a) (λb U=>h.sub b (List.mem_of_mem_erase U)) af;have D:=Bv (N:=N) ay;have aj:=h.pos a (h.sub a ay);omega
def lS.once(h:lS N L T v H){a:A}(ay:a∈H):a∉H.erase a:=λD=>h.need ay λt bE=>(h.pF t bE).mono λb U=>by
 by_cases nA:b=a
 ·rw[nA];exact D
 ·exact(List.mem_erase_of_ne nA).2 U
def WT:∀{H:List A},(∀a∈H,a∉H.erase a)→H.Nodup
 |[],_=>nodup_nil
 |a::H,h=>by
  have ay:a∉H:=by have:=h a (by simp);rwa [erase_cons_head]at this
  refine nodup_cons.2 ⟨ay,WT λb U eS=>?_⟩;have hW:a≠b:=λe=>ay (e▸U);refine h b (mem_cons.2 (.inr U)) ?_;rw[erase_cons_tail (by simpa using hW)];exact mem_cons.2 (.inr eS)
def lS.nodup(h:lS N L T v H):H.Nodup:=WT λ_ ay=>h.once ay
def lS.Ii(h:lS N L T v H){a:A}(ay:a∈H):eL N H v (N.src a):=by
 apply Classical.byContradiction;intro aR;refine h.need ay λt bE=>?_
 have:∀{x t:Int},eL N H x t→eL N H v x→eL N (H.erase a) x t:=λ{x t} u=>by
  induction u with
  |refl v=>intro _;exact .refl v
  |step b U _ bg=>
   intro aa;have nA:b≠a:=λe=>by subst e;exact aR aa
   exact .step b ((List.mem_erase_of_ne nA).2 U) (bg (aa.trans (.one U)))
 exact this (h.pF t bE) (.refl v)
def lS.ends(h:lS N L T v H){a:A}(ay:a∈H):∃t,T t∧eL N H (N.dst a) t:=by
 apply Classical.byContradiction;intro aR;refine h.need ay λt bE=>?_
 have:∀{x t:Int},eL N H x t→¬eL N H (N.dst a) t→eL N (H.erase a) x t:=λ{x t} u=>by
  induction u with
  |refl v=>intro _;exact .refl v
  |step b U aB bg=>
   intro aa;have nA:b≠a:=λe=>by subst e;exact aa aB
   exact .step b ((List.mem_erase_of_ne nA).2 U) (bg aa)
 exact this (h.pF t bE) λaf=>aR ⟨t,bE,af⟩
def W3{a:A}(af:eL N (H.erase a) v (N.dst a)){t:Int}(h:eL N H v t):eL N (H.erase a) v t:=by
 have:∀{x t:Int},eL N H x t→eL N (H.erase a) x t∨eL N (H.erase a) (N.dst a) t:=λ{x t} u=>by
  induction u with
  |refl v=>exact .inl (.refl v)
  |step b U _ bg=>
   rcases bg with bg|bg
   ·by_cases nA:b=a
    ·subst nA;exact .inr bg
    ·exact .inl (.step b ((List.mem_erase_of_ne nA).2 U) bg)
   ·exact .inr bg
 rcases this h with h|h
 ·exact h
 ·exact af.trans h
def IT{x y:Int}(h:eL N H x y):x=y∨∃e∈H,N.dst e=y∧eL N (H.filter λa=>!decide (N.dst a=y)) x (N.src e):=by
 induction h with
 |refl v=>exact .inl rfl
 |@step aA a ay aB bg=>
  by_cases ag:N.dst a=aA
  ·exact .inr ⟨a,ay,ag,.refl _⟩
  ·rcases bg with bg|⟨e,h1,D,aj⟩
   ·exact absurd bg ag
   ·exact .inr ⟨e,h1,D,.step a (List.mem_filter.2 ⟨ay,by simp[ag]⟩) aj⟩
def lS.root(h:lS N L T v H){a:A}(ay:a∈H):N.dst a≠v:=λe=>h.need ay λt bE=>W3 (by rw[e];exact .refl v) (h.pF t bE)
def lS.dst(h:lS N L T v H){a b:A}(ay:a∈H)(U:b∈H)(he:N.dst a=N.dst b):a=b:=by
 apply Classical.byContradiction;intro hW;have ag:eL N H v (N.dst a):=(h.Ii ay).trans (.one ay);rcases IT ag with h1|⟨e,h1,D,aj⟩
 ·exact h.root ay h1.symm
 ·have AR:∀c,c∈H→N.dst c=N.dst a→e≠c→False:=λc af Z U5=>by
   refine h.need af λt bE=>W3 ?_ (h.pF t bE);rw[Z]
   have hm:eL N (H.erase c) v (N.src e):=aj.mono λx u=>by
    obtain⟨NW,CA⟩:=List.mem_filter.1 u;refine(List.mem_erase_of_ne λMh=>?_).2 NW;subst Mh;simp[Z]at CA
   have k8:e∈H.erase c:=(List.mem_erase_of_ne U5).2 h1;have:=hm.trans (.one k8);rw[D]at this;exact this
  by_cases U4:e=a
  ·exact AR b U he.symm (λDQ=>hW (U4.symm.trans DQ))
  ·exact AR a ay rfl U4
end net2
end
end
section
set_option linter.all false
open Go List
noncomputable instance aps:DecidableEq bB:=λ_ _=>Classical.propDecidable _
def eR:w4 bB:=⟨λa=>a.Hop.bz,λa=>a.Hop.br,λa=>a.c6⟩
structure pR(aq:List bB):Prop where
 cost:∀a∈aq,1≤a.c6∧a.c6≤1000
 to:∀a∈aq,a.Hop.br≠0
 hop:∀a∈aq,∀b∈aq,a.Hop=b.Hop→a=b
 len:aq.length≤1000
structure oI(aq:List bB)(root:Int)(ts:List Int)(X:List b6)(c:Int):Prop where
 ex:∃hf:wX,lS eR aq (λt=>t∈ts) root hf∧gB eR hf=c∧X.Perm (hf.map (·.Hop))
 nQ:X.Pairwise λa b=>ht [λx:b6=>x.bz,λx:b6=>x.br] a b<0
def OX(aq:wX)(root:Int)(ts:cq)(r:zu×Int×Bool):Prop:=(r.2.2=true∧oI aq root ts r.1 r.2.1)∨(r=([],0,false)∧¬∀t,t∈ts→eL eR aq root t)
noncomputable def Hw{β:Type}(aq:wX)(root:Int)(ts:cq)(K:(zu×Int×Bool)→Option β):Option β:=@ite _ (pR aq∧ts.length≤6) (Classical.propDecidable _) (Db (OX aq root ts) K) none
end
section
set_option linter.all false
open Go List
def gG:cq→cq
 |[]=>[]
 |x::r=>match gG r with
  |[]=>[x]
  |y::s=>if x=y then y::s else x::y::s
def hB(m:List (Int×Int))(r:Int):Int:=(aD m r).getD 2305843009213693951
def pX(s:List (Int×Int)×Bool)(a:bB):List (Int×Int)×Bool:=if a.c6+hB s.1 a.Hop.br<hB s.1 a.Hop.bz then(bG s.1 a.Hop.bz (a.c6+hB s.1 a.Hop.br),true)else s
def x4(aq:wX)(m:List (Int×Int)):List (Int×Int)×Bool:=aq.foldl pX (m,false)
inductive r2(aq:List bB):List (Int×Int)→List (Int×Int)→Prop
 |done {m:List (Int×Int)} (h:(x4 aq m).2=false):r2 aq m m
 |more {m n:List (Int×Int)} (h:(x4 aq m).2=true) (aB:r2 aq (x4 aq m).1 n):r2 aq m n
variable {aq:wX}
def r2.unique{m n:List (Int×Int)}(h:r2 aq m n):∀{iE:List (Int×Int)},r2 aq m iE→iE=n:=by
 induction h with
 |done h=>intro iE b3;cases b3 with
  |done _=>rfl
  |more D _=>rw[h]at D;cases D
 |more h _ bg=>intro iE b3;cases b3 with
  |done D=>rw[h]at D;cases D
  |more _ aj=>exact bg aj
def o8(aq:wX):Prop:=∀a∈aq,0≤a.c6∧a.c6≤1000000
noncomputable def yF(aq:wX)(target:Int):Option (List (Int×Int)):=@dite _ (o8 aq∧∃n,r2 aq [(target,0)] n) (Classical.propDecidable _) (λh=>some (Classical.choose h.2)) (λ_=>none)
variable {t:Int}
def aoc{n:List (Int×Int)}(h:yF aq t=some n):o8 aq∧r2 aq [(t,0)] n:=by
 unfold yF at h;split at h
 ·rename_i af;cases h;exact⟨af.1,Classical.choose_spec af.2⟩
 ·cases h
def XI{n:List (Int×Int)}(ay:o8 aq)(h:r2 aq [(t,0)] n):yF aq t=some n:=by
 unfold yF;rw[dif_pos ⟨ay,n,h⟩];exact congrArg some (h.unique (Classical.choose_spec _))
end
section
open Go List
set_option maxRecDepth 100000
set_option linter.all false
section
noncomputable section
def Ey(n:Int):lz:=
 some ((decide (1≤n))&&(decide (n≤1000)))
def zv(t:bA)(nm:Int):lz:=
 ez t.bC 0 (λ(bk:Int) (aJ:dQ) (c1:Unit→Option _) ()=>bif decide (aJ.cu=nm)then some true else c1 ()) (λ(av:Unit)=>match av with|()=>some false) ()
def Eu(t:bA):jo:=
 bif ((decide (24<(t.bC.length:Int)))||(decide (60<(t.Links.length:Int))))then some (3:Int)else ez t.bC 0 (λ(bk:Int) (aJ:dQ) (c1:Unit→Option _) ()=>bif ((decide (aJ.cu<1))||(decide (99<aJ.cu)))then some (2:Int)else c1 ()) (λ(av:Unit)=>match av with|()=>ez (List.drop 1 t.bC) 1 (λ(dn:Int) (e2:dQ) (hR:Unit→Option _) ()=>aW (di t.bC (aF ((dn:Int)-(1:Int)))) λ(en:dQ)=>bif decide (e2.cu≤en.cu)then some (25:Int)else hR ()) (λ(av:Unit)=>match av with|()=>ez t.Links 0 (λ(eZ:Int) (dm:dR) (lp:Unit→Option _) ()=>jn (λ(fT:Bool)=>bif fT then some (2:Int)else lp ()) λeC=>aW (Ey dm.kP) λ(aG:Bool)=>(bif !aG then eC true else aW (Ey dm.kQ) λ(bt:Bool)=>(bif !bt then eC true else(bif decide (dm.sH<0)then eC true else eC (decide (1000<dm.sH)))))) (λ(av:Unit)=>match av with|()=>ez t.Links 0 (λ(mF:Int) (gb:dR) (te:Unit→Option _) ()=>jn (λ(mw:Bool)=>bif mw then some (4:Int)else te ()) λfZ=>aW (zv t gb.A) λ(dy:Bool)=>(bif !dy then fZ true else aW (zv t gb.B) λ(dz:Bool)=>fZ (!dz))) (λ(av:Unit)=>match av with|()=>ez t.Links 0 (λ(j3:Int) (gU:dR) (vA:Unit→Option _) ()=>bif decide (gU.B≤gU.A)then some (8:Int)else vA ()) (λ(av:Unit)=>match av with|()=>ez (List.drop 1 t.Links) 1 (λ(lg:Int) (i1:dR) (C4:Unit→Option _) ()=>aW (di t.Links (aF ((lg:Int)-(1:Int)))) λ(er:dR)=>bif ((decide (i1.A<er.A))||((decide (er.A=i1.A))&&(decide (i1.B≤er.B))))then some (25:Int)else C4 ()) (λ(av:Unit)=>match av with|()=>some (0:Int)) ()) ()) ()) ()) ()) ()
end
end
section
noncomputable section
def xE(t:bA)(nm:Int):lz:=
 aW (Eu t) λ(aG:Int)=>(bif decide (aG=0)then aW (zv t nm) λ(bt:Bool)=>some bt else some false)
end
end
section
noncomputable section
def Bf(fh:Int):lz:=
 some (!decide (fh=fh))
def p8(fh:Int)(y:Int):jo:=
 aW (Bf fh) λ(aG:Bool)=>aW (Bf y) λ(bt:Bool)=>bif aG then bif bt then some (0:Int)else some (-1:Int)else bif bt then some (1:Int)else bif decide (fh<y)then some (-1:Int)else bif decide (y<fh)then some (1:Int)else some (0:Int)
def vO(fU:cq):jo:=
 ez fU 0 (λ(bk:Int) (aJ:Int) (c1:Unit→Option _) ()=>bif !decide (aJ=0)then some aJ else c1 ()) (λ(av:Unit)=>match av with|()=>some (0:Int)) ()
def AE(fh:Ax)(target:Int)(hN:dQ→Int→jo):Option (Int×Bool):=
 jL (λ(c1:(Int×Int)→Option _) (c3,fl)=>bif decide (c3<fl)then aW (di fh (aF (Int.fdiv (IntKind.wrap .u64 (aF (c3+fl))) (2 ^ min (1:Int).toNat 64)))) λ(en:dQ)=>aW (hN en target) λ(aG:Int)=>bif decide (aG<0)then c1 (aF ((aF (Int.fdiv (IntKind.wrap .u64 (aF (c3+fl))) (2 ^ min (1:Int).toNat 64)))+(1:Int)),fl)else c1 (c3,aF (Int.fdiv (IntKind.wrap .u64 (aF (c3+fl))) (2 ^ min (1:Int).toNat 64)))else(bif decide (c3<(fh.length:Int))then aW (di fh c3) λ(er:dQ)=>aW (hN er target) λ(bt:Int)=>some (c3,decide (bt=0))else some (c3,false))) ((0:Int),(fh.length:Int))
def Gz(eE:cq)(v:Int):jo:=
 ez eE 0 (λ(bk:Int) (aJ:Int) (c1:Unit→Option _) ()=>bif decide (v=aJ)then some (bk:Int)else c1 ()) (λ(av:Unit)=>match av with|()=>some (-1:Int)) ()
def Gs(eE:Ax)(f:dQ→lz):jo:=
 ez eE 0 (λ(bk:Int) (aJ:dQ) (c1:Unit→Option _) ()=>aW (f aJ) λ(aG:Bool)=>bif aG then some (bk:Int)else c1 ()) (λ(av:Unit)=>match av with|()=>some (-1:Int)) ()
def Gw(eE:Aw)(f:dR→lz):jo:=
 ez eE 0 (λ(bk:Int) (aJ:dR) (c1:Unit→Option _) ()=>aW (f aJ) λ(aG:Bool)=>bif aG then some (bk:Int)else c1 ()) (λ(av:Unit)=>match av with|()=>some (-1:Int)) ()
def GA(eE:cq)(f:Int→lz):jo:=
 ez eE 0 (λ(bk:Int) (aJ:Int) (c1:Unit→Option _) ()=>aW (f aJ) λ(aG:Bool)=>bif aG then some (bk:Int)else c1 ()) (λ(av:Unit)=>match av with|()=>some (-1:Int)) ()
def w9(eE:cq)(v:Int):lz:=
 aW (Gz eE v) λ(aG:Int)=>some (decide (0≤aG))
def DB(eE:Ax)(f:dQ→lz):lz:=
 aW (Gs eE f) λ(aG:Int)=>some (decide (0≤aG))
def yA(eE:Aw)(f:dR→lz):lz:=
 aW (Gw eE f) λ(aG:Int)=>some (decide (0≤aG))
def DC(eE:cq)(f:Int→lz):lz:=
 aW (GA eE f) λ(aG:Int)=>some (decide (0≤aG))
def xe(n:Int)(least:Int)(lP:Int):lz:=
 some ((decide (least≤n))&&(decide (n≤lP)))
def Ef(a:dR)(b:dR):jo:=
 aW (p8 a.A b.A) λ(aG:Int)=>aW (p8 a.B b.B) λ(bt:Int)=>aW (vO ([aG,bt]:cq)) λ(dy:Int)=>some dy
def Bg(oq:dQ)(id:Int):jo:=
 aW (p8 oq.cu id) λ(aG:Int)=>some aG
def Ho(oq:dQ):lz:=
 aW (xe oq.cu (1:Int) (99:Int)) λ(aG:Bool)=>some (!aG)
def D9(l:dR):lz:=
 aW (xe l.kP (1:Int) (1000:Int)) λ(aG:Bool)=>(bif !aG then some true else aW (xe l.kQ (1:Int) (1000:Int)) λ(bt:Bool)=>(bif !bt then some true else aW (xe l.sH (0:Int) (1000:Int)) λ(dy:Bool)=>some (!dy)))
def AV(id:Int)(kY:bA):lz:=
 aW (AE kY.bC id Bg) λ(aG:Int×Bool)=>some (!aG.2)
def Hp(l:dR)(kY:bA):lz:=
 aW (AV l.A kY) λ(aG:Bool)=>(bif aG then some true else aW (AV l.B kY) λ(bt:Bool)=>some bt)
def Hq(l:dR):lz:=
 some (decide (l.B≤l.A))
def yK(t:bA):jo:=
 bif ((decide (24<(t.bC.length:Int)))||(decide (60<(t.Links.length:Int))))then some (3:Int)else aW (DB t.bC Ho) λ(aG:Bool)=>bif aG then some (2:Int)else ez t.bC 0 (λ(bk:Int) (aJ:dQ) (c1:Unit→Option _) ()=>jn (λ(fT:Bool)=>bif fT then some (25:Int)else c1 ()) λeC=>(bif decide (0<(bk:Int))then aW (di t.bC (aF ((bk:Int)-(1:Int)))) λ(en:dQ)=>eC (decide (aJ.cu≤en.cu))else eC false)) (λ(av:Unit)=>match av with|()=>aW (yA t.Links D9) λ(bt:Bool)=>bif bt then some (2:Int)else aW (yA t.Links (λ(ho:dR)=>Hp ho t)) λ(dy:Bool)=>bif dy then some (4:Int)else aW (yA t.Links Hq) λ(dz:Bool)=>bif dz then some (8:Int)else ez t.Links 0 (λ(dn:Int) (e2:dR) (hR:Unit→Option _) ()=>jn (λ(mw:Bool)=>bif mw then some (25:Int)else hR ()) λfZ=>(bif decide (0<(dn:Int))then aW (di t.Links (aF ((dn:Int)-(1:Int)))) λ(er:dR)=>aW (Ef er e2) λ(gN:Int)=>fZ (decide (0≤gN))else fZ false)) (λ(av:Unit)=>match av with|()=>some (0:Int)) ()) ()
def Ej(t:bA):lz:=
 aW (yK t) λ(aG:Int)=>some (decide (aG=0))
def Eg(t:bA)(nx:Int):Option (dQ×Bool):=
 aW (AE t.bC nx Bg) λ(aG:Int×Bool)=>bif !aG.2 then some ((dQ.mk (0:Int) false),false)else aW (di t.bC aG.1) λ(en:dQ)=>some (en,true)
def Bl(t:bA)(nx:Int):lz:=
 aW (Eg t nx) λ(aG:dQ×Bool)=>aW (Ej t) λ(bt:Bool)=>(bif bt then some aG.2 else some false)
end
end
section
noncomputable section
def ME(fh:Int):jo:=
 jn (λ(av:Int×Int)=>match av with|(aG,hZ)=>jn (λ(av:Int×Int)=>match av with|(bt,wh)=>jn (λ(av:Int×Int)=>match av with|(dy,BG)=>aW (Ms (⟨#[0,1,2,2,3,3,3,3,4,4,4,4,4,4,4,4,5,5,5,5,5,5,5,5,5,5,5,5,5,5,5,5,6,6,6,6,6,6,6,6,6,6,6,6,6,6,6,6,6,6,6,6,6,6,6,6,6,6,6,6,6,6,6,6,7,7,7,7,7,7,7,7,7,7,7,7,7,7,7,7,7,7,7,7,7,7,7,7,7,7,7,7,7,7,7,7,7,7,7,7,7,7,7,7,7,7,7,7,7,7,7,7,7,7,7,7,7,7,7,7,7,7,7,7,7,7,7,7,8,8,8,8,8,8,8,8,8,8,8,8,8,8,8,8,8,8,8,8,8,8,8,8,8,8,8,8,8,8,8,8,8,8,8,8,8,8,8,8,8,8,8,8,8,8,8,8,8,8,8,8,8,8,8,8,8,8,8,8,8,8,8,8,8,8,8,8,8,8,8,8,8,8,8,8,8,8,8,8,8,8,8,8,8,8,8,8,8,8,8,8,8,8,8,8,8,8,8,8,8,8,8,8,8,8,8,8,8,8,8,8,8,8,8,8,8,8,8,8,8,8,8,8,8,8,8,8]⟩:ByteArray) (IntKind.wrap .u8 dy)) λ(ou:UInt8)=>some (aF (BG+(aF (ou.toNat:Int))))) λj7=>bif decide (256≤bt)then j7 (Int.fdiv bt (2 ^ min (8:Int).toNat 64),aF (wh+8))else j7 (bt,wh)) λfZ=>bif decide (65536≤aG)then fZ (Int.fdiv aG (2 ^ min (16:Int).toNat 64),aF (hZ+16))else fZ (aG,hZ)) λeC=>bif decide (4294967296≤fh)then eC (Int.fdiv fh (2 ^ min (32:Int).toNat 64),(32:Int))else eC (fh,(0:Int))
def MP(fh:Int):jo:=
 aW (ME fh) λ(aG:Int)=>some aG
def Ld: Option Unit:=
 jL (λ(c1:Unit→Option _) ()=>some ()) ()
def Lg(Ex:Int):Option Unit:=
 jL (λ(c1:Unit→Option _) ()=>aW (Ld) λ(aG:Unit)=>some ()) ()
def VO: Option Unit:=
 aW (MP (0:Int)) λ(aG:Int)=>aW (Lg aG) λ(bt:Unit)=>some ()
end
end
section
noncomputable section
def Ea(t:cq):Option eD:=
 aW (ug t (0:Int) (if(2000:Int)<(t.length:Int)then(2000:Int)else(t.length:Int))) λ(ew:cq)=>some (eD.mk ew (0:Int))
def DH(t:eD):Option (Int×eD):=
 bif decide ((t.L.length:Int)≤t.At)then some ((0:Int),t)else aW (di t.L (aF ((aF (t.At+1))-(1:Int)))) λ(en:Int)=>some (en,(eD.mk t.L (aF (t.At+1))))
def Eb(fh:Int)(n:Int):jo:=
 bif decide (n<1)then some (0:Int)else jB (decide (n≠0))<|jn (λ(aG:Int)=>some aG) λeC=>bif decide (Int.tmod fh n<0)then eC (aF ((Int.tmod fh n)+n))else eC (Int.tmod fh n)
def pz(t:eD)(n:Int):Option (Int×eD):=
 aW (DH t) λ(aG:Int×eD)=>aW (Eb aG.1 n) λ(bt:Int)=>some (bt,aG.2)
def yD(t:eD)(lo:Int)(hi:Int):Option (Int×eD):=
 aW (pz t (aF ((aF (hi-lo))+(1:Int)))) λ(aG:Int×eD)=>some (aF (lo+aG.1),aG.2)
def w8(t:eD)(l:cq):Option (Int×eD):=
 aW (pz t (l.length:Int)) λ(aG:Int×eD)=>aW (di l aG.1) λ(en:Int)=>some (en,aG.2)
def Ek(l:cq)(l5:Int):lz:=
 ez l 0 (λ(bk:Int) (aJ:Int) (c1:Unit→Option _) ()=>bif decide (aJ=l5)then some true else c1 ()) (λ(av:Unit)=>match av with|()=>some false) ()
def xc(l:cq)(l5:Int):qb:=
 jL (λ(c1:Int→Option _) (kj:Int)=>jn (λ(fT:Bool)=>bif fT then c1 (aF (kj+1))else jn (λ(mw:Bool)=>bif mw then some l else aW (ug l kj (l.length:Int)) λ(ew:cq)=>aW (jR ([l5]:cq) ew) λ(gr:cq)=>aW (ug l (0:Int) kj) λ(jy:cq)=>aW (jR jy gr) λ(lM:cq)=>some lM) λfZ=>(bif decide (kj<(l.length:Int))then aW (di l kj) λ(er:Int)=>fZ (decide (er=l5))else fZ false)) λeC=>(bif decide (kj<(l.length:Int))then aW (di l kj) λ(en:Int)=>eC (decide (en<l5))else eC false)) (0:Int)
end
end
section
noncomputable section
def Es(t:eD)(lP:Int):Option (bA×eD):=
 aW (yD t (1:Int) lP) λ(aG:Int×eD)=>jB (decide (aG.1≤9223372036854775807))<|ng (aG.1-0).toNat (0:Int) (λ(bk:Int) (c1:(Int×(Ax)×(cq)×Int)→Option _) (vt,ct,eN,dU)=>aW (w8 (eD.mk eN dU) ([(1:Int),(1:Int),(1:Int),(2:Int),(5:Int)]:cq)) λ(bt:Int×eD)=>aW (jR ct ([(dQ.mk (aF (vt+bt.1)) true)]:Ax)) λ(ew:Ax)=>c1 (aF (vt+bt.1),ew,bt.2.L,bt.2.At)) (λ(bk:Int) (av:Int×(Ax)×(cq)×Int)=>match av with|(vt,ct,eN,dU)=>jB (decide (0<aG.1)&&decide (aG.1≤4294967296))<|jB (decide (((List.replicate aG.1.toNat []:jd).length:Int)≤9223372036854775807))<|ng (((List.replicate aG.1.toNat []:jd).length:Int)-(0:Int)).toNat (0:Int) (λ(dn:Int) (hR:(jd)→Option _) (cE:(jd))=>jB (decide (0≤aG.1)&&decide (aG.1≤4294967296))<|aW (di cE (dn:Int)) λ(en:qS)=>hR (List.set cE (dn:Int).toNat (List.replicate (aG.1).toNat false))) (λ(dn:Int) (cE:(jd))=>jB (decide (aG.1≤9223372036854775807))<|ng (aG.1-1).toNat (1:Int) (λ(eZ:Int) (lp:((cq)×Int×(jd))→Option _) (gp,qt,qZ)=>jn (λ(av:(jd)×(cq)×Int)=>match av with|(Bw,Bx,CO)=>lp (Bx,CO,Bw)) λeC=>aW (pz (eD.mk gp qt) (12:Int)) λ(dy:Int×eD)=>bif decide (dy.1<11)then aW (pz dy.2 (eZ:Int)) λ(dz:Int×eD)=>aW (di qZ dz.1) λ(er:qS)=>aW (di er (eZ:Int)) λ(rE:Bool)=>aW (lJ er (eZ:Int) true) λ(gr:qS)=>eC ((List.set qZ dz.1.toNat gr),dz.2.L,dz.2.At)else eC (qZ,dy.2.L,dy.2.At)) (λ(eZ:Int) (av:(cq)×Int×(jd))=>match av with|(gp,qt,qZ)=>aW (pz (eD.mk gp qt) (aF (aG.1+2))) λ(gN:Int×eD)=>jL (λ(te:(Int×(cq)×Int×(jd))→Option _) (c3,CP,CQ,h7)=>bif decide (0<c3)then jn (λ(av:(jd)×(cq)×Int)=>match av with|(CR,CS,CT)=>te (aF (c3-1),CS,CT,CR)) λfZ=>aW (pz (eD.mk CP CQ) aG.1) λ(hD:Int×eD)=>aW (pz hD.2 aG.1) λ(e0:Int×eD)=>bif !decide (hD.1=e0.1)then aW (di h7 (if e0.1<hD.1 then e0.1 else hD.1)) λ(nU:qS)=>aW (di nU (if e0.1>hD.1 then e0.1 else hD.1)) λ(tj:Bool)=>aW (lJ nU (if e0.1>hD.1 then e0.1 else hD.1) true) λ(jy:qS)=>fZ ((List.set h7 (if e0.1<hD.1 then e0.1 else hD.1).toNat jy),e0.2.L,e0.2.At)else fZ (h7,e0.2.L,e0.2.At)else aW (pz (eD.mk CP CQ) (3:Int)) λ(gn:Int×eD)=>jB (decide ((h7.length:Int)≤9223372036854775807))<|ng ((h7.length:Int)-(0:Int)).toNat (0:Int) (λ(j3:Int) (vA:((Aw)×(cq)×Int)→Option _) (wU,wV,wW)=>jB (decide ((h7.length:Int)≤9223372036854775807))<|ng ((h7.length:Int)-(0:Int)).toNat (0:Int) (λ(lg:Int) (C4:((Aw)×(cq)×Int)→Option _) (r1,uk,um)=>jn (λ(av:(cq)×Int×(Aw))=>match av with|(CU,CF,CG)=>C4 (CG,CU,CF)) λj7=>aW (di h7 (j3:Int)) λ(qK:qS)=>aW (di qK (lg:Int)) λ(sv:Bool)=>bif !sv then j7 (uk,um,r1)else aW (di ct (j3:Int)) λ(uI:dQ)=>aW (di ct (lg:Int)) λ(uJ:dQ)=>aW (w8 (eD.mk uk um) ([(0:Int),(1:Int),(2:Int),(3:Int),(5:Int),(10:Int),(1000:Int)]:cq)) λ(dX:Int×eD)=>jn (λ(av:(cq)×Int×Int×Int)=>match av with|(CH,CI,De,Df)=>aW (jR r1 ([(dR.mk uI.cu uJ.cu De Df dX.1)]:Aw)) λ(lM:Aw)=>j7 (CH,CI,lM)) λCX=>bif !(decide (gn.1=0))then aW (yD dX.2 (1:Int) (20:Int)) λ(Aa:Int×eD)=>aW (w8 Aa.2 ([(1:Int),(2:Int),(3:Int),Aa.1,(1000:Int)]:cq)) λ(rX:Int×eD)=>aW (yD rX.2 (1:Int) (20:Int)) λ(x3:Int×eD)=>aW (w8 x3.2 ([rX.1,rX.1,x3.1]:cq)) λ(iG:Int×eD)=>CX (iG.2.L,iG.2.At,rX.1,iG.1)else CX (dX.2.L,dX.2.At,(1:Int),(1:Int))) (λ(lg:Int) (av:(Aw)×(cq)×Int)=>match av with|(r1,uk,um)=>vA (r1,uk,um)) (wU,wV,wW)) (λ(j3:Int) (av:(Aw)×(cq)×Int)=>match av with|(wU,wV,wW)=>some ((bA.mk ct wU),(eD.mk wV wW))) ([],gn.2.L,gn.2.At)) (gN.1,gN.2.L,gN.2.At,qZ)) (eN,dU,cE)) (List.replicate aG.1.toNat []:jd)) ((0:Int),[],aG.2.L,aG.2.At)
def Bt(t:eD)(p:bA)(n:Int):Option ((cq)×eD):=
 aW (pz t (aF (n+1))) λ(aG:Int×eD)=>jL (λ(c1:((cq)×Int×(cq)×Int)→Option _) (jO,c3,ct,eN)=>bif ((decide (0<c3))&&(decide (0<(p.bC.length:Int))))then aW (pz (eD.mk ct eN) (p.bC.length:Int)) λ(bt:Int×eD)=>aW (di p.bC bt.1) λ(en:dQ)=>aW (xc jO en.cu) λ(dy:(cq))=>c1 (dy,aF (c3-1),bt.2.L,bt.2.At)else some (jO,(eD.mk ct eN))) ([],aG.1,aG.2.L,aG.2.At)
end
end
section
noncomputable section
def Hr(a:b6)(b:b6):jo:=
 aW (p8 a.bz b.bz) λ(aG:Int)=>aW (p8 a.br b.br) λ(bt:Int)=>aW (vO ([aG,bt]:cq)) λ(dy:Int)=>some dy
def HY(a:bB)(b:bB):jo:=
 aW (p8 a.Hop.bz b.Hop.bz) λ(aG:Int)=>aW (p8 a.Hop.br b.Hop.br) λ(bt:Int)=>aW (vO ([aG,bt]:cq)) λ(dy:Int)=>some dy
def Hu(a:ey)(b:ey):jo:=
 aW (p8 a.gX b.gX) λ(aG:Int)=>some aG
end
end
section
noncomputable section
def zw(t:bA):Option (List bB):=
 ez t.Links 0 (λ(bk:Int) (aJ:dR) (c1:(wX)→Option _) (jO:(wX))=>aW (jR jO ([(bB.mk (b6.mk aJ.A aJ.B) aJ.kP),(bB.mk (b6.mk aJ.B aJ.A) aJ.kQ)]:wX)) λ(ew:wX)=>c1 ew) (λ(jO:(wX))=>aW (nG (ht [λx:bB=>x.Hop.bz,λx:bB=>x.Hop.br]) jO) λ(gr:wX)=>some gr) []
end
end
section
noncomputable section
def AU(l:cq):lz:=
 ez (List.drop 1 l) 1 (λ(bk:Int) (aJ:Int) (c1:Unit→Option _) ()=>aW (di l (aF ((bk:Int)-(1:Int)))) λ(en:Int)=>bif decide (aJ≤en)then some false else c1 ()) (λ(av:Unit)=>match av with|()=>some true) ()
def yJ(t:bA)(root:Int)(hd:cq):jo:=
 aW (yK t) λ(aG:Int)=>bif !decide (aG=0)then some (1:Int)else aW (AU hd) λ(bt:Bool)=>bif !bt then some (25:Int)else aW (jR ([root]:cq) hd) λ(ew:cq)=>ez ew 0 (λ(bk:Int) (aJ:Int) (c1:Unit→Option _) ()=>aW (Bl t aJ) λ(dy:Bool)=>bif !dy then some (4:Int)else c1 ()) (λ(av:Unit)=>match av with|()=>some (0:Int)) ()
def Hs(oq:Int)(kY:fe):lz:=
 aW (w9 kY.bC oq) λ(aG:Bool)=>some aG
def Ec(t:bA)(root:Int)(hd:cq)(l:zy):lz:=
 bif decide (200<(l.length:Int))then some false else ez l 0 (λ(bk:Int) (aJ:fe) (c1:Unit→Option _) ()=>jn (λ(fT:Bool)=>bif fT then some false else ez aJ.bC 0 (λ(dn:Int) (e2:Int) (hR:Unit→Option _) ()=>aW (Bl t e2) λ(dy:Bool)=>bif !dy then some false else hR ()) (λ(av:Unit)=>match av with|()=>aW (DC hd (λ(ho:Int)=>Hs ho aJ)) λ(dz:Bool)=>bif !dz then some false else c1 ()) ()) λeC=>(bif decide (aJ.Value<1)then eC true else(bif decide (24000<aJ.Value)then eC true else aW (AU aJ.bC) λ(aG:Bool)=>(bif !aG then eC true else aW (w9 aJ.bC root) λ(bt:Bool)=>eC bt)))) (λ(av:Unit)=>match av with|()=>aW (zw t) λ(gN:(wX))=>ez gN 0 (λ(eZ:Int) (dm:bB) (lp:Unit→Option _) ()=>ez l 0 (λ(mF:Int) (gb:fe) (te:Int→Option _) (k7:Int)=>jn (λ(Cp:Int)=>te Cp) λfZ=>jn (λ(mw:Bool)=>bif mw then fZ (aF (k7+gb.Value))else fZ k7) λj7=>aW (w9 gb.bC dm.Hop.br) λ(hD:Bool)=>(bif hD then aW (w9 gb.bC dm.Hop.bz) λ(e0:Bool)=>j7 (!e0)else j7 false)) (λ(k7:Int)=>bif decide (dm.c6<k7)then some false else lp ()) (0:Int)) (λ(av:Unit)=>match av with|()=>some true) ()) ()
def yE(t:bA)(root:Int)(hd:cq)(l:zy):Option (Int×Int):=
 aW (yJ t root hd) λ(aG:Int)=>bif !decide (aG=0)then some ((0:Int),aG)else aW (Ec t root hd l) λ(bt:Bool)=>bif !bt then some ((0:Int),(1:Int))else ez l 0 (λ(bk:Int) (aJ:fe) (c1:Int→Option _) (k7:Int)=>c1 (aF (k7+aJ.Value))) (λ(k7:Int)=>some (k7,(0:Int))) (0:Int)
end
end
section
noncomputable section
def Ev(t:bA)(nm:Int):jo:=
 ez t.bC 0 (λ(bk:Int) (aJ:dQ) (c1:Unit→Option _) ()=>bif decide (aJ.cu=nm)then some (bk:Int)else c1 ()) (λ(av:Unit)=>match av with|()=>some (0:Int)) ()
def EK(t:bA)(yj:Int):qb:=
 jB (decide (0≤(t.bC.length:Int))&&decide ((t.bC.length:Int)≤4294967296))<|jL (λ(c1:((cq)×Int)→Option _) (uF,c3)=>bif decide (c3<(uF.length:Int))then jn (λ(AJ:(cq))=>c1 (AJ,aF (c3+1))) λeC=>aW (di uF c3) λ(en:Int)=>aW (lJ uF c3 (1073741824:Int)) λ(ew:cq)=>aW (di t.bC c3) λ(er:dQ)=>bif decide (er.cu=yj)then aW (di ew c3) λ(rE:Int)=>aW (lJ ew c3 (0:Int)) λ(gr:cq)=>eC gr else eC ew else jL (λ(hR:((cq)×Int)→Option _) (vH,sJ)=>bif decide (sJ<(vH.length:Int))then ez t.Links 0 (λ(eZ:Int) (dm:dR) (lp:(cq)→Option _) (rD:(cq))=>jn (λ(AK:(cq))=>lp AK) λfZ=>aW (Ev t dm.A) λ(aG:Int)=>aW (Ev t dm.B) λ(bt:Int)=>jn (λ(vI:(cq))=>aW (di vI aG) λ(qK:Int)=>bif decide (qK<1073741824)then aW (di vI bt) λ(sv:Int)=>aW (lJ vI bt (if(aF (dm.kQ+qK))<sv then aF (dm.kQ+qK)else sv)) λ(lM:cq)=>fZ lM else fZ vI) λj7=>aW (di rD bt) λ(nU:Int)=>bif decide (nU<1073741824)then aW (di rD aG) λ(tj:Int)=>aW (lJ rD aG (if(aF (dm.kP+nU))<tj then aF (dm.kP+nU)else tj)) λ(jy:cq)=>j7 jy else j7 rD) (λ(rD:(cq))=>hR (rD,aF (sJ+1))) vH else some vH) (uF,(0:Int))) ((List.replicate ((t.bC.length:Int)).toNat (0:Int)),(0:Int))
def Bu(t:bA)(d:cq)(zS:Int):jo:=
 ez t.bC 0 (λ(bk:Int) (aJ:dQ) (c1:Unit→Option _) ()=>bif decide (aJ.cu=zS)then aW (di d (bk:Int)) λ(en:Int)=>some en else c1 ()) (λ(av:Unit)=>match av with|()=>some (1073741824:Int)) ()
def Ez(t:bA)(k5:Int)(oi:Int):Option (Int×Bool):=
 jn (λ(fT:Bool)=>bif fT then some ((0:Int),false)else aW (EK t oi) λ(dy:(cq))=>aW (Bu t dy k5) λ(dz:Int)=>bif decide (dz=1073741824)then some ((0:Int),false)else some (dz,true)) λeC=>aW (xE t k5) λ(aG:Bool)=>(bif !aG then eC true else aW (xE t oi) λ(bt:Bool)=>eC (!bt))
end
end
section
noncomputable section
def vK{β:Type}(t:bA)(root:Int)(hd:cq)(fE:(hq×Int×Int)→Option β):Option β:=
 aW (yJ t root hd) λ(aG:Int)=>bif !decide (aG=0)then fE ((hq.mk (0:Int) []),(0:Int),aG)else bif decide (6<(hd.length:Int))then fE ((hq.mk (0:Int) []),(0:Int),(3:Int))else aW (zw t) λ(bt:(wX))=>Hw bt root hd λ(dy:(zu)×Int×Bool)=>bif !dy.2.2 then fE ((hq.mk (0:Int) []),(0:Int),(9:Int))else fE ((hq.mk root dy.1),dy.2.1,(0:Int))
end
end
section
noncomputable section
def G8(oq:List (b6×Int))(l5:hq)(Dh:Int):Option (Bool×(List (b6×Int))):=
 ez l5.Links 0 (λ(bk:Int) (aJ:b6) (c1:(Bool×(List (b6×Int)))→Option _) (JQ,ct)=>jB (mo i0 ct aJ).isSome<|(bif JQ then c1 (decide (0≤((mo i0 (p0 i0 ct aJ (aF (((mo i0 ct aJ).getD (0:Int))-Dh))) aJ).getD (0:Int))),p0 i0 ct aJ (aF (((mo i0 ct aJ).getD (0:Int))-Dh)))else c1 (false,p0 i0 ct aJ (aF (((mo i0 ct aJ).getD (0:Int))-Dh))))) (λ(av:Bool×(List (b6×Int)))=>match av with|(JQ,ct)=>some (JQ,ct)) (true,oq)
end
end
section
noncomputable section
def Hy(t:bA):lz:=
 aW (yK t) λ(aG:Int)=>some (decide (aG=0))
def Eh(t:bA):Option xg:=
 ez t.bC 0 (λ(bk:Int) (aJ:dQ) (c1:((List (Int×xQ))×(List (Int×xQ)))→Option _) (ct,eN)=>c1 (bG ct aJ.cu [],bG eN aJ.cu [])) (λ(av:(List (Int×xQ))×(List (Int×xQ)))=>match av with|(ct,eN)=>ez t.Links 0 (λ(dn:Int) (e2:dR) (hR:((List (Int×xQ))×(List (Int×xQ)))→Option _) (dU,cE)=>aW (jR ((aD dU e2.A).getD []) ([(ey.mk e2.B e2.kP)]:xQ)) λ(ew:xQ)=>aW (jR ((aD (bG dU e2.A ew) e2.B).getD []) ([(ey.mk e2.A e2.kQ)]:xQ)) λ(gr:xQ)=>aW (jR ((aD cE e2.B).getD []) ([(ey.mk e2.A e2.kP)]:xQ)) λ(jy:xQ)=>aW (jR ((aD (bG cE e2.B jy) e2.A).getD []) ([(ey.mk e2.B e2.kQ)]:xQ)) λ(lM:xQ)=>hR (bG (bG dU e2.A ew) e2.B gr,bG (bG cE e2.B jy) e2.A lM)) (λ(av:(List (Int×xQ))×(List (Int×xQ)))=>match av with|(dU,cE)=>aW (xX dU (λ(hZ:Int) (fT:xQ) (gp:(List (Int×xQ)))=>jB (aD gp hZ).isSome<|aW (nG (ht [λx:ey=>x.gX]) ((aD gp hZ).getD [])) λ(xI:xQ)=>some (bG gp hZ xI)) dU) λ(e5:(List (Int×xQ)))=>some (xg.mk e5 cE)) (ct,eN)) (([]:List (Int×xQ)),([]:List (Int×xQ)))
def xa(gj:List (Int×xQ))(k5:Int):Option (List (Int×Int)):=
 bif !((aD gj k5).isSome)then some []else jn (λ(av:(List (Int×Int))×(List (Int×Int)))=>match av with|(ct,eN)=>some ct) λeC=>jL (λ(c1:((List (Int×Int))×(List (Int×Int)))→Option _) (dU,cE)=>bif decide (0<(cE.length:Int))then aW (xX cE (λ(hZ:Int) (fT:Int) (h4:Int)=>bif ((decide (h4=0))||((decide (fT<((aD cE h4).getD (0:Int))))||((decide (fT=((aD cE h4).getD (0:Int))))&&(decide (hZ<h4)))))then some hZ else some h4) (0:Int)) λ(e5:Int)=>bif decide (((bG dU e5 ((aD cE e5).getD (0:Int))).length:Int)=(gj.length:Int))then eC (bG dU e5 ((aD cE e5).getD (0:Int)),oK cE e5)else ez ((aD gj e5).getD []) 0 (λ(dn:Int) (e2:ey) (hR:(List (Int×Int))→Option _) (gp:(List (Int×Int)))=>jn (λ(qt:(List (Int×Int)))=>hR qt) λfZ=>bif (aD (bG dU e5 ((aD cE e5).getD (0:Int))) e2.gX).isSome then fZ gp else bif ((!((aD gp e2.gX).isSome))||(decide (aF (((aD cE e5).getD (0:Int))+e2.lB)<((aD gp e2.gX).getD (0:Int)))))then fZ (bG gp e2.gX (aF (((aD cE e5).getD (0:Int))+e2.lB)))else fZ gp) (λ(gp:(List (Int×Int)))=>c1 (bG dU e5 ((aD cE e5).getD (0:Int)),gp)) (oK cE e5)else eC (dU,cE)) ([],bG [] k5 (0:Int))
def Bh(t:bA)(k5:Int)(oi:Int):Option (Int×Bool):=
 aW (Hy t) λ(aG:Bool)=>bif !aG then some ((0:Int),false)else aW (Eh t) λ(bt:xg)=>aW (xa bt.CN k5) λ(dy:(List (Int×Int)))=>some (((aD dy oi).getD (0:Int)),(aD dy oi).isSome)
end
end
section
noncomputable section
def AO(eE:cq):qb:=
 aW (jR ([]:cq) eE) λ(ew:cq)=>some ew
def VN: qb:=
 aW (jR ([]:cq) []) λ(ew:cq)=>some ew
def G9(s:cq):qb:=AO s
def AL(g8:cq)(a:Int)(b:Int)(hN:Int→Int→jo):qb:=
 jL (λ(c1:(Int×(cq))→Option _) (c3,ct)=>bif decide (c3<b)then jL (λ(hR:(Int×(cq))→Option _) (fl,eN)=>jn (λ(fT:Bool)=>bif fT then aW (di eN (aF (fl-1))) λ(rE:Int)=>aW (di eN fl) λ(nU:Int)=>aW (lJ eN fl rE) λ(ew:cq)=>aW (di ew (aF (fl-1))) λ(tj:Int)=>aW (lJ ew (aF (fl-1)) nU) λ(gr:cq)=>hR (aF (fl-1),gr)else c1 (aF (c3+1),eN)) λeC=>(bif decide (a<fl)then aW (di eN fl) λ(en:Int)=>aW (di eN (aF (fl-1))) λ(er:Int)=>aW (hN en er) λ(aG:Int)=>eC (decide (aG<0))else eC false)) (c3,ct)else some ct) (aF (a+1),g8)
def DE(g8:cq)(a:Int)(b:Int)(n:Int)(hN:Int→Int→jo):qb:=
 jB (decide (n≤9223372036854775807))<|ng (n-0).toNat (0:Int) (λ(bk:Int) (c1:(cq)→Option _) (ct:(cq))=>aW (di ct (aF (b+(bk:Int)))) λ(en:Int)=>aW (di ct (aF (a+(bk:Int)))) λ(er:Int)=>aW (lJ ct (aF (a+(bk:Int))) en) λ(ew:cq)=>aW (di ew (aF (b+(bk:Int)))) λ(rE:Int)=>aW (lJ ew (aF (b+(bk:Int))) er) λ(gr:cq)=>c1 gr) (λ(bk:Int) (ct:(cq))=>some ct) g8
def Mn(g8:cq)(a:Int)(m:Int)(b:Int)(hN:Int→Int→jo):qb:=
 jL (λ(c1:(Int×Int×(cq))→Option _) (c3,fl,ct)=>bif !decide (c3=fl)then bif decide (fl<c3)then aW (DE ct (aF (m-c3)) m fl hN) λ(aG:(cq))=>c1 (aF (c3-fl),fl,aG)else aW (DE ct (aF (m-c3)) (aF ((aF (m+fl))-c3)) c3 hN) λ(bt:(cq))=>c1 (c3,aF (fl-c3),bt)else aW (DE ct (aF (m-c3)) m c3 hN) λ(dy:(cq))=>some dy) (aF (m-a),aF (b-m),g8)
def AI:Nat→(cq)→Int→Int→Int→(Int→Int→jo)→qb
 |0,_,_,_,_,_=>none
 |zM+1,g8,a,m,b,hN=>bif decide (aF (m-a)=(1:Int))then jL (λ(c1:(Int×Int)→Option _) (c3,fl)=>bif decide (c3<fl)then aW (di g8 (aF (Int.fdiv (IntKind.wrap .u64 (aF (c3+fl))) (2 ^ min (1:Int).toNat 64)))) λ(en:Int)=>aW (di g8 a) λ(er:Int)=>aW (hN en er) λ(aG:Int)=>bif decide (aG<0)then c1 (aF ((aF (Int.fdiv (IntKind.wrap .u64 (aF (c3+fl))) (2 ^ min (1:Int).toNat 64)))+(1:Int)),fl)else c1 (c3,aF (Int.fdiv (IntKind.wrap .u64 (aF (c3+fl))) (2 ^ min (1:Int).toNat 64)))else jL (λ(hR:(Int×(cq))→Option _) (kj,ct)=>bif decide (kj<aF (c3-1))then aW (di ct (aF (kj+1))) λ(rE:Int)=>aW (di ct kj) λ(nU:Int)=>aW (lJ ct kj rE) λ(ew:cq)=>aW (di ew (aF (kj+1))) λ(tj:Int)=>aW (lJ ew (aF (kj+1)) nU) λ(gr:cq)=>hR (aF (kj+1),gr)else some ct) (a,g8)) (m,b)else bif decide (aF (b-m)=(1:Int))then jL (λ(lp:(Int×Int)→Option _) (og,pS)=>bif decide (og<pS)then aW (di g8 m) λ(qK:Int)=>aW (di g8 (aF (Int.fdiv (IntKind.wrap .u64 (aF (og+pS))) (2 ^ min (1:Int).toNat 64)))) λ(sv:Int)=>aW (hN qK sv) λ(bt:Int)=>bif !(decide (bt<0))then lp (aF ((aF (Int.fdiv (IntKind.wrap .u64 (aF (og+pS))) (2 ^ min (1:Int).toNat 64)))+(1:Int)),pS)else lp (og,aF (Int.fdiv (IntKind.wrap .u64 (aF (og+pS))) (2 ^ min (1:Int).toNat 64)))else jL (λ(te:(Int×(cq))→Option _) (qV,eN)=>bif decide (og<qV)then aW (di eN (aF (qV-1))) λ(uI:Int)=>aW (di eN qV) λ(uJ:Int)=>aW (lJ eN qV uI) λ(jy:cq)=>aW (di jy (aF (qV-1))) λ(aiO:Int)=>aW (lJ jy (aF (qV-1)) uJ) λ(lM:cq)=>te (aF (qV-1),lM)else some eN) (m,g8)) (a,m)else jn (λ(av:Int×Int)=>match av with|(E8,C6)=>jL (λ(vA:(Int×Int)→Option _) (gZ,pf)=>bif decide (gZ<pf)then aW (di g8 (aF ((aF ((aF ((aF (Int.fdiv (IntKind.wrap .u64 (aF (a+b))) (2 ^ min (1:Int).toNat 64)))+m))-(1:Int)))-(aF (Int.fdiv (IntKind.wrap .u64 (aF (gZ+pf))) (2 ^ min (1:Int).toNat 64)))))) λ(T4:Int)=>aW (di g8 (aF (Int.fdiv (IntKind.wrap .u64 (aF (gZ+pf))) (2 ^ min (1:Int).toNat 64)))) λ(T6:Int)=>aW (hN T4 T6) λ(dy:Int)=>bif !(decide (dy<0))then vA (aF ((aF (Int.fdiv (IntKind.wrap .u64 (aF (gZ+pf))) (2 ^ min (1:Int).toNat 64)))+(1:Int)),pf)else vA (gZ,aF (Int.fdiv (IntKind.wrap .u64 (aF (gZ+pf))) (2 ^ min (1:Int).toNat 64)))else jn (λ(dU:(cq))=>jn (λ(cE:(cq))=>bif ((decide (aF (Int.fdiv (IntKind.wrap .u64 (aF (a+b))) (2 ^ min (1:Int).toNat 64))<aF ((aF ((aF (Int.fdiv (IntKind.wrap .u64 (aF (a+b))) (2 ^ min (1:Int).toNat 64)))+m))-gZ)))&&(decide (aF ((aF ((aF (Int.fdiv (IntKind.wrap .u64 (aF (a+b))) (2 ^ min (1:Int).toNat 64)))+m))-gZ)<b)))then aW (AI zM cE (aF (Int.fdiv (IntKind.wrap .u64 (aF (a+b))) (2 ^ min (1:Int).toNat 64))) (aF ((aF ((aF (Int.fdiv (IntKind.wrap .u64 (aF (a+b))) (2 ^ min (1:Int).toNat 64)))+m))-gZ)) b hN) λ(hD:(cq))=>some hD else some cE) λj7=>bif ((decide (a<gZ))&&(decide (gZ<aF (Int.fdiv (IntKind.wrap .u64 (aF (a+b))) (2 ^ min (1:Int).toNat 64)))))then aW (AI zM dU a gZ (aF (Int.fdiv (IntKind.wrap .u64 (aF (a+b))) (2 ^ min (1:Int).toNat 64))) hN) λ(gN:(cq))=>j7 gN else j7 dU) λfZ=>bif ((decide (gZ<m))&&(decide (m<aF ((aF ((aF (Int.fdiv (IntKind.wrap .u64 (aF (a+b))) (2 ^ min (1:Int).toNat 64)))+m))-gZ))))then aW (Mn g8 gZ m (aF ((aF ((aF (Int.fdiv (IntKind.wrap .u64 (aF (a+b))) (2 ^ min (1:Int).toNat 64)))+m))-gZ)) hN) λ(dz:(cq))=>fZ dz else fZ g8) (E8,C6)) λeC=>bif decide (aF (Int.fdiv (IntKind.wrap .u64 (aF (a+b))) (2 ^ min (1:Int).toNat 64))<m)then eC (aF ((aF ((aF (Int.fdiv (IntKind.wrap .u64 (aF (a+b))) (2 ^ min (1:Int).toNat 64)))+m))-b),aF (Int.fdiv (IntKind.wrap .u64 (aF (a+b))) (2 ^ min (1:Int).toNat 64)))else eC (a,m)
def AN(g8:cq)(n:Int)(hN:Int→Int→jo):qb:=
 jL (λ(c1:(Int×Int×(cq))→Option _) (AB,ou,ct)=>bif decide (ou≤n)then aW (AL ct AB ou hN) λ(aG:(cq))=>c1 (ou,aF (ou+20),aG)else aW (AL ct AB n hN) λ(bt:(cq))=>jL (λ(hR:(Int×(cq))→Option _) (mQ,eN)=>bif decide (mQ<n)then jL (λ(lp:(Int×Int×(cq))→Option _) (tf,rB,dU)=>bif decide (rB≤n)then aW (AI fuel dU tf (aF (tf+mQ)) rB hN) λ(dy:(cq))=>lp (rB,aF (rB+(aF ((2:Int)*mQ))),dy)else jn (λ(cE:(cq))=>hR (aF (mQ*2),cE)) λeC=>bif decide (aF (tf+mQ)<n)then aW (AI fuel dU tf (aF (tf+mQ)) n hN) λ(dz:(cq))=>eC dz else eC dU) ((0:Int),aF ((2:Int)*mQ),eN)else some eN) ((20:Int),bt)) ((0:Int),(20:Int),g8)
def DF(fh:cq)(hN:Int→Int→jo):qb:=
 aW (AN fh (fh.length:Int) hN) λ(aG:(cq))=>some aG
def El(aq:wX)(root:Int)(vq:Int):Option ((zy)×(wX)):=
 aW (yF aq vq) λ(aG:(List (Int×Int)))=>jB (decide (aG.length≤100000))<|jB (decide ((fN (aG.map Prod.snd)).length≤100000))<|jn (λ(jO:(zy))=>ez aq 0 (λ(eZ:Int) (dm:bB) (lp:(wX)→Option _) (dU:(wX))=>jn (λ(cE:(wX))=>lp cE) λj7=>aW (di dU (eZ:Int)) λ(er:bB)=>bif (((aD aG er.Hop.bz).isSome)&&((aD aG er.Hop.br).isSome))then aW (lJ dU (eZ:Int) (bB.mk er.Hop (aF (er.c6-(if(aF ((if((aD aG root).getD (0:Int))<((aD aG er.Hop.bz).getD (0:Int))then((aD aG root).getD (0:Int))else((aD aG er.Hop.bz).getD (0:Int)))-(if((aD aG root).getD (0:Int))<((aD aG er.Hop.br).getD (0:Int))then((aD aG root).getD (0:Int))else((aD aG er.Hop.br).getD (0:Int)))))>(0:Int)then aF ((if((aD aG root).getD (0:Int))<((aD aG er.Hop.bz).getD (0:Int))then((aD aG root).getD (0:Int))else((aD aG er.Hop.bz).getD (0:Int)))-(if((aD aG root).getD (0:Int))<((aD aG er.Hop.br).getD (0:Int))then((aD aG root).getD (0:Int))else((aD aG er.Hop.br).getD (0:Int))))else(0:Int)))))) λ(jy:wX)=>j7 jy else j7 dU) (λ(dU:(wX))=>some (jO,dU)) aq) λeC=>ez (gG (fN (aG.map Prod.snd))) 0 (λ(bk:Int) (aJ:Int) (c1:(zy)→Option _) (jq:(zy))=>bif decide (((aD aG root).getD (0:Int))≤aJ)then eC jq else aW (di (gG (fN (aG.map Prod.snd))) (aF ((bk:Int)+(1:Int)))) λ(en:Int)=>jB (decide (aG.length≤100000))<|ez (fN (aG.map Prod.fst)) 0 (λ(dn:Int) (e2:Int) (hR:(cq)→Option _) (ct:(cq))=>jn (λ(eN:(cq))=>hR eN) λfZ=>bif decide (((aD aG e2).getD (0:Int))≤aJ)then aW (jR ct ([e2]:cq)) λ(ew:cq)=>fZ ew else fZ ct) (λ(ct:(cq))=>aW (jR jq ([(fe.mk ct (aF ((if((aD aG root).getD (0:Int))<en then((aD aG root).getD (0:Int))else en)-aJ)))]:zy)) λ(gr:zy)=>c1 gr) []) (λ(jq:(zy))=>eC jq) []
def MK(a:Int)(b:Int)(kY:List (Int×Int)):jo:=
 aW (p8 ((aD kY b).getD (0:Int)) ((aD kY a).getD (0:Int))) λ(aG:Int)=>some aG
def Ei(t:bA)(root:Int)(hd:cq):Option ((zy)×Int):=
 aW (yJ t root hd) λ(aG:Int)=>bif !decide (aG=0)then some ([],aG)else ez hd 0 (λ(bk:Int) (aJ:Int) (c1:(List (Int×Int))→Option _) (ct:(List (Int×Int)))=>aW (Bh t root aJ) λ(bt:Int×Bool)=>bif !bt.2 then some ([],(9:Int))else c1 (bG ct aJ bt.1)) (λ(ct:(List (Int×Int)))=>aW (G9 hd) λ(dy:(cq))=>aW (DF dy (λ(ho:Int) (j6:Int)=>MK ho j6 ct)) λ(dz:(cq))=>aW (zw t) λ(gN:(wX))=>jn (λ(jO:(zy))=>some (jO,(0:Int))) λeC=>ez dz 0 (λ(dn:Int) (e2:Int) (hR:((wX)×(zy))→Option _) (wj,jq)=>jn (λ(av:(wX)×(zy))=>match av with|(Cc,Cq)=>hR (Cc,Cq)) λfZ=>bif decide (e2=root)then fZ (wj,jq)else aW (El wj root e2) λ(hD:(zy)×(wX))=>bif decide (200<aF ((jq.length:Int)+(hD.1.length:Int)))then eC jq else aW (jR jq hD.1) λ(ew:zy)=>fZ (hD.2,ew)) (λ(av:(wX)×(zy))=>match av with|(wj,jq)=>eC jq) (gN,[])) []
end
end
end
section
open Go Go.Proofs.Tryz List
set_option maxRecDepth 100000
set_option linter.all false
def yI{n:Int}{r:Bool}(hm:Ey n=some r):dT prog 147 [] [W n] (.bool r):=by
 refine dY func147 rfl rfl ?_;unfold Ey at hm;refine bp [] [(0,W n)] []<|asK [(2,.bool ((decide (1≤n))&&(decide (n≤1000))))] [] (λhk=>?_) ?_
 ·rcases j5 (decide (1≤n))with bl|bl
  ·exact bp [(2,aN (cg bl)),(6,aN (oh (q:=decide (n≤1000)) bl))] _ _ hk
  exact bp [(2,aN (cg bl)),(6,aN (r6 (q:=decide (n≤1000)) bl))] _ _ hk
 cases hm;exact A.ret de
def HH{t:bA}{nm:Int}{r:Bool}(hm:zv t nm=some r):dT prog 148 [] [.agg (cK t),W nm] (.bool r):=by
 refine dY func148 rfl rfl ?_;unfold zv at hm;refine bp [(0,.al 62)] [(1,W nm),(2,.ptr 62 0)] [(62,.cells 28 (cK t))]<|A.seq<|bh [] [] [(5,W 0)]<|A.block<|asS 2 0 rfl rfl rfl λfA=>?_
 obtain⟨hJ,hK,hv,hw,hm⟩:=iM hm;refine asz (l:=t.bC) (hj:=0) (B:=hJ) (K:=hK) hm (λbk=>λ()=>[(1,W nm),(2,.ptr 62 0),(5,W bk)]) (λbk=>λ()=>[(62,.cells 28 (cK t))]) ?_ ?_ ?_
 ·exact gw
 ·rintro bk aJ c1 ⟨⟩ hP cH hm;rw[hv]at hm;refine A.seq<|bh [(3,aN (eG ec t.bC))] [] [(10,.d ((bk:Int)<t.bC.length))] ?_
  refine cm (iC cH)<|A.skip<|A.seq<|A.block<|bh [(3,ds (ix ec (gT cH)))] [10] [(20,.d (aJ.cu=nm))] ?_
  rcases cD hm with⟨bl,hm⟩|⟨bl,hm⟩
  ·refine cm bl<|bp [] [(4,.bool true)] [] ?_
   cases hm;exact A.ret de
  exact ck bl<|A.skip<|dV [(1,aN (hY cH fA))] [5,20] [(5,W ((bk+1:Nat):Int))]<|cR () hm
 rintro bk ⟨⟩ hP gh hm;rw[hw]at hm;refine A.seq<|bh [(3,aN (eG ec t.bC))] [] [(10,.d ((bk:Int)<t.bC.length))] ?_
 refine ck (iB gh)<|A.exit<|bp [] [(4,.bool false)] [] ?_
 cases hm;exact A.ret de
def V9{t:bA}{r:Int}(hm:Eu t=some r):dT prog 77 [] [.agg (cK t)] (W r):=by
 refine dY func77 rfl rfl ?_;unfold Eu at hm;refine bp [(0,.al 21)] [(1,.ptr 21 0)] [(21,.cells 28 (cK t))]<|A.seq<|asK [(1,.ptr 21 0),(21,.bool ((decide (24<(t.bC.length:Int)))||(decide (60<(t.Links.length:Int)))))] [(21,.cells 28 (cK t))] (λhk=>?_) ?_
 ·rcases j5 (decide (24<(t.bC.length:Int)))with bl|bl
  ·exact bp [(2,aN (eG ec t.bC)),(4,aN (cg bl)),(9,aN (p3 (q:=decide (60<(t.Links.length:Int))) bl))] _ _ hk
  exact bp [(2,aN (eG ec t.bC)),(4,aN (cg bl)),(7,aN (eG eT t.Links)),(9,aN (i5 (q:=decide (60<(t.Links.length:Int))) bl))] _ _ hk
 rcases cD hm with⟨b2,hm⟩|⟨b2,hm⟩
 ·refine cm b2<|bp [] [(2,W 3)] [] ?_
  cases hm;exact A.ret de
 refine ck b2<|A.skip<|A.seq<|bh [] [21] [(3,W 0)]<|A.block<|asS 1 0 rfl rfl rfl λfA=>?_
 obtain⟨hJ,hK,hv,hw,hm⟩:=iM hm;refine asz (l:=t.bC) (hj:=0) (B:=hJ) (K:=hK) hm (λbk=>λ()=>[(1,.ptr 21 0),(3,W bk)]) (λbk=>λ()=>[(21,.cells 28 (cK t))]) ?_ ?_ ?_
 ·exact gw
 ·rintro bk aJ c1 ⟨⟩ hP cH hm;rw[hv]at hm;refine A.seq<|bh [(3,aN (eG ec t.bC))] [] [(26,.d ((bk:Int)<t.bC.length))] ?_
  refine cm (iC cH)<|A.skip<|A.seq<|A.block<|asK [(1,.ptr 21 0),(3,W bk),(44,.bool ((decide (aJ.cu<1))||(decide (99<aJ.cu))))] [(21,.cells 28 (cK t))] (λhk=>?_) ?_
  ·rcases j5 (decide (aJ.cu<1))with c9|c9
   ·exact bp [(3,ds (ix ec (gT cH))),(7,aN (cg c9)),(15,aN (p3 (q:=decide (99<aJ.cu)) c9))] _ _ hk
   exact bp [(3,ds (ix ec (gT cH))),(7,aN (cg c9)),(11,ds (ix ec (gT cH))),(15,aN (i5 (q:=decide (99<aJ.cu)) c9))] _ _ hk
  rcases cD hm with⟨e3,hm⟩|⟨e3,hm⟩
  ·refine cm e3<|bp [] [(2,W 2)] [] ?_
   cases hm;exact A.ret de
  exact ck e3<|A.skip<|dV [(1,aN (hY cH fA))] [3,44] [(3,W ((bk+1:Nat):Int))]<|cR () hm
 rintro bk ⟨⟩ hP gh hm;rw[hw]at hm;refine A.seq<|bh [(3,aN (eG ec t.bC))] [] [(26,.d ((bk:Int)<t.bC.length))] ?_
 refine ck (iB gh)<|A.exit<|A.seq<|bh [] [3,26] [(4,W 1)]<|A.block<|asS 1 0 rfl rfl rfl λeS=>?_
 obtain⟨nO,km,n0,n3,hm⟩:=iM hm;refine asz (l:=t.bC) (hj:=1) (B:=nO) (K:=km) hm (λdn=>λ()=>[(1,.ptr 21 0),(4,W dn)]) (λdn=>λ()=>[(21,.cells 28 (cK t))]) ?_ ?_ ?_
 ·exact gw
 ·rintro dn e2 hR ⟨⟩ j2 gi hm;rw[n0]at hm;refine A.seq<|bh [(3,aN (eG ec t.bC))] [] [(49,.d ((dn:Int)<t.bC.length))] ?_
  refine cm (iC gi)<|A.skip<|A.seq<|A.block ?_
  obtain⟨en,h1,hm⟩:=bw hm;refine bh [(4,ds (ix ec h1)),(10,ds (ix ec (gT gi)))] [49] [(65,.d (e2.cu≤en.cu))] ?_;rcases cD hm with⟨gm,hm⟩|⟨gm,hm⟩
  ·refine cm gm<|bp [] [(2,W 25)] [] ?_
   cases hm;exact A.ret de
  exact ck gm<|A.skip<|dV [(1,aN (hY gi eS))] [4,65] [(4,W ((dn+1:Nat):Int))]<|cR () hm
 rintro dn ⟨⟩ j2 kU hm;rw[n3]at hm;refine A.seq<|bh [(3,aN (eG ec t.bC))] [] [(49,.d ((dn:Int)<t.bC.length))] ?_
 refine ck (iB kU)<|A.exit<|A.seq<|bh [] [4,49] [(5,W 0)]<|A.block<|asS 1 1 rfl rfl rfl λrI=>?_
 obtain⟨s9,tb,tC,tD,hm⟩:=iM hm;refine asz (l:=t.Links) (hj:=0) (B:=s9) (K:=tb) hm (λeZ=>λ()=>[(1,.ptr 21 0),(5,W eZ)]) (λeZ=>λ()=>[(21,.cells 28 (cK t))]) ?_ ?_ ?_
 ·exact gw
 ·rintro eZ dm lp ⟨⟩ pM k9 hm;rw[tC]at hm;refine A.seq<|bh [(3,aN (eG eT t.Links))] [] [(70,.d ((eZ:Int)<t.Links.length))] ?_
  refine cm (iC k9)<|A.skip<|A.seq<|A.block<|fs [(3,ds (ix eT (gT k9))),(5,.al 135)] [70] [(6,.ptr 135 0)] [] [(135,.cells 62 (gv dm))] ?_
  obtain⟨eC,j0,hm⟩:=je hm;refine A.J (J:=eC) (r:=r) (λfT=>[(1,.ptr 21 0),(5,W eZ),(97,.bool fT)]) (λfT=>[(21,.cells 28 (cK t))]) ?_ ?_
  ·obtain⟨aG,D,hm⟩:=bw hm;rcases cD hm with⟨hT,hm⟩|⟨hT,hm⟩
   ·exact jj [(2,cM (yI D) z8),(4,aN (cg hT))] [6] [(97,.bool true)] [135] []<|cR true hm
   obtain⟨bt,aj,hm⟩:=bw hm;rcases cD hm with⟨jc,hm⟩|⟨jc,hm⟩
   ·exact jj [(2,cM (yI D) z8),(4,aN (cg hT)),(7,cM (yI aj) z8),(10,aN (cg jc))] [6] [(97,.bool true)] [135] []<|cR true hm
   rcases cD hm with⟨kN,hm⟩|⟨kN,hm⟩
   ·exact jj [(2,cM (yI D) z8),(4,aN (cg hT)),(7,cM (yI aj) z8),(10,aN (cg jc)),(15,aN (cg kN))] [6] [(97,.bool true)] [135] []<|cR true hm
   exact jj [(2,cM (yI D) z8),(4,aN (cg hT)),(7,cM (yI aj) z8),(10,aN (cg jc)),(15,aN (cg kN))] [6] [(97,.d (1000<dm.sH))] [135] []<|cR (decide (1000<dm.sH)) hm
  rintro fT hm;rw[j0]at hm;rcases cD hm with⟨kX,hm⟩|⟨kX,hm⟩
  ·refine cm kX<|bp [] [(2,W 2)] [] ?_
   cases hm;exact A.ret de
  exact ck kX<|A.skip<|dV [(1,aN (hY k9 rI))] [5,97] [(5,W ((eZ+1:Nat):Int))]<|cR () hm
 rintro eZ ⟨⟩ pM mY hm;rw[tD]at hm;refine A.seq<|bh [(3,aN (eG eT t.Links))] [] [(70,.d ((eZ:Int)<t.Links.length))] ?_
 refine ck (iB mY)<|A.exit<|A.seq<|bh [] [5,70] [(7,W 0)]<|A.block<|asS 1 1 rfl rfl rfl λLJ=>?_
 obtain⟨Jr,Jz,Ln,LA,hm⟩:=iM hm;refine asz (l:=t.Links) (hj:=0) (B:=Jr) (K:=Jz) hm (λmF=>λ()=>[(1,.ptr 21 0),(7,W mF)]) (λmF=>λ()=>[(21,.cells 28 (cK t))]) ?_ ?_ ?_
 ·exact gw
 ·rintro mF gb te ⟨⟩ LZ ql hm;rw[Ln]at hm;refine A.seq<|bh [(3,aN (eG eT t.Links))] [] [(102,.d ((mF:Int)<t.Links.length))] ?_
  refine cm (iC ql)<|A.skip<|A.seq<|A.block ?_
  obtain⟨fZ,j1,hm⟩:=je hm;refine A.J (J:=fZ) (r:=r) (λmw=>[(1,.ptr 21 0),(7,W mF),(124,.bool mw)]) (λmw=>[(21,.cells 28 (cK t))]) ?_ ?_
  ·obtain⟨dy,a1,hm⟩:=bw hm;rcases cD hm with⟨l8,hm⟩|⟨l8,hm⟩
   ·exact dV [(4,ds (ix eT (gT ql))),(7,cM (HH a1) FU),(9,aN (cg l8))] [102] [(124,.bool true)]<|cR true hm
   obtain⟨dz,bU,hm⟩:=bw hm;exact dV [(4,ds (ix eT (gT ql))),(7,cM (HH a1) FU),(9,aN (cg l8)),(14,ds (ix eT (gT ql))),(17,cM (HH bU) FU)] [102] [(124,.bool (!dz))]<|cR (!dz) hm
  rintro mw hm;rw[j1]at hm;rcases cD hm with⟨tg,hm⟩|⟨tg,hm⟩
  ·refine cm tg<|bp [] [(2,W 4)] [] ?_
   cases hm;exact A.ret de
  exact ck tg<|A.skip<|dV [(1,aN (hY ql LJ))] [7,124] [(7,W ((mF+1:Nat):Int))]<|cR () hm
 rintro mF ⟨⟩ LZ GQ hm;rw[LA]at hm;refine A.seq<|bh [(3,aN (eG eT t.Links))] [] [(102,.d ((mF:Int)<t.Links.length))] ?_
 refine ck (iB GQ)<|A.exit<|A.seq<|bh [] [7,102] [(8,W 0)]<|A.block<|asS 1 1 rfl rfl rfl λajz=>?_
 obtain⟨Js,JA,Lo,LB,hm⟩:=iM hm;refine asz (l:=t.Links) (hj:=0) (B:=Js) (K:=JA) hm (λj3=>λ()=>[(1,.ptr 21 0),(8,W j3)]) (λj3=>λ()=>[(21,.cells 28 (cK t))]) ?_ ?_ ?_
 ·exact gw
 ·rintro j3 gU vA ⟨⟩ L0 zh hm;rw[Lo]at hm;refine A.seq<|bh [(3,aN (eG eT t.Links))] [] [(129,.d ((j3:Int)<t.Links.length))] ?_
  refine cm (iC zh)<|A.skip<|A.seq<|A.block<|bh [(3,ds (ix eT (gT zh))),(9,ds (ix eT (gT zh)))] [129] [(144,.d (gU.B≤gU.A))] ?_
  rcases cD hm with⟨rC,hm⟩|⟨rC,hm⟩
  ·refine cm rC<|bp [] [(2,W 8)] [] ?_
   cases hm;exact A.ret de
  exact ck rC<|A.skip<|dV [(1,aN (hY zh ajz))] [8,144] [(8,W ((j3+1:Nat):Int))]<|cR () hm
 rintro j3 ⟨⟩ L0 L3 hm;rw[LB]at hm;refine A.seq<|bh [(3,aN (eG eT t.Links))] [] [(129,.d ((j3:Int)<t.Links.length))] ?_
 refine ck (iB L3)<|A.exit<|A.seq<|bh [] [8,129] [(9,W 1)]<|A.block<|asS 1 1 rfl rfl rfl λajA=>?_
 obtain⟨Jt,JB,Lp,LC,hm⟩:=iM hm;refine asz (l:=t.Links) (hj:=1) (B:=Jt) (K:=JB) hm (λlg=>λ()=>[(1,.ptr 21 0),(9,W lg)]) (λlg=>λ()=>[(21,.cells 28 (cK t))]) ?_ ?_ ?_
 ·exact gw
 ·rintro lg i1 C4 ⟨⟩ L1 Bd hm;rw[Lp]at hm;refine A.seq<|bh [(3,aN (eG eT t.Links))] [] [(149,.d ((lg:Int)<t.Links.length))] ?_
  refine cm (iC Bd)<|A.skip<|A.seq<|A.block ?_
  obtain⟨er,dP,hm⟩:=bw hm;refine fs [(4,ds (ix eT dP)),(9,ds (ix eT (gT Bd))),(11,.al 136),(12,.al 137)] [149] [(10,.ptr 136 0),(11,.ptr 137 0)] [] [(136,.cells 62 (gv er)),(137,.cells 62 (gv i1))]<|asK [(1,.ptr 21 0),(9,W lg),(181,.bool ((decide (i1.A<er.A))||((decide (er.A=i1.A))&&(decide (i1.B≤er.B)))))] [(21,.cells 28 (cK t))] (λhk=>?_) ?_
  ·rcases j5 (decide (i1.A<er.A))with p6|p6
   ·exact bp [(5,aN (cg p6)),(18,aN (p3 (q:=((decide (er.A=i1.A))&&(decide (i1.B≤er.B)))) p6))] _ _ hk
   rcases j5 (decide (er.A=i1.A))with lu|lu
   ·exact bp [(5,aN (cg p6)),(11,aN (cg lu)),(18,aN ((oh (q:=decide (i1.B≤er.B)) lu).trans (i5 (q:=((decide (er.A=i1.A))&&(decide (i1.B≤er.B)))) p6)))] _ _ hk
   exact bp [(5,aN (cg p6)),(11,aN (cg lu)),(18,aN ((r6 (q:=decide (i1.B≤er.B)) lu).trans (i5 (q:=((decide (er.A=i1.A))&&(decide (i1.B≤er.B)))) p6)))] _ _ hk
  rcases cD hm with⟨nS,hm⟩|⟨nS,hm⟩
  ·refine cm nS<|bp [] [(2,W 25)] [] ?_
   cases hm;exact A.ret de
  exact ck nS<|A.skip<|dV [(1,aN (hY Bd ajA))] [9,181] [(9,W ((lg+1:Nat):Int))]<|cR () hm
 rintro lg ⟨⟩ L1 L4 hm;rw[LC]at hm;refine A.seq<|bh [(3,aN (eG eT t.Links))] [] [(149,.d ((lg:Int)<t.Links.length))] ?_
 refine ck (iB L4)<|A.exit<|bp [] [(2,W 0)] [] ?_
 cases hm;exact A.ret de
end
end Go.Proofs.YtmnbolcmepihlaaGreat
