/- Several texts in one. No condition but those that stand in each. -/
import Derived.Test.YtmnbolcmepihlaaGreatZ2
import Derived.Shelf.Spec.SlicesInsertGrow
import Derived.Test.YtmnbolcmepihlaaGreatZ3
import Derived.Test.YtmnbolcmepihlaaGreatZ1
namespace Go.Proofs.YtmnbolcmepihlaaGreat
section
set_option linter.all false
open Go List
section
section
def ds.row{I bq:bG}(hle:cV I bq){b:Nat}:∀(cs:List W) (vs:dQ) (o:Nat),ds I cs vs→(∀j,j<vs.length→bq b ((o+j:Nat):j4)=vs[j]?)→l1 bq b cs o
 |[],_,_,_,_=>by simp[l1]
 |x::r,vs,o,h,aY=>by
  simp only[ds]at h;obtain⟨aR,us,rfl,h1,D⟩:=h;simp only[l1];refine⟨⟨aR,?_,kK hle _ _ h1⟩,ds.row hle r us (o+1) D λj qx=>?_⟩
  ·have:=aY 0 (by simp);simpa using this
  ·have:=aY (j+1) (by simp;omega);rw[show o+1+j=o+(j+1)by omega];simpa using this
def awg{G:cR}{env:au}{σ:ag}(t C:Nat){T:Nat}{cs:List W}(b5:env.get t=.ptr C 0)(mz:σ.get C=some (.cells T cs))(ah:nm cs=true):cB G env σ ((t,.gq cs)::env) (σ.minus [C]):=by
 intro cx I β a w h b3;have an:=h.c4 C _ mz;simp only[bb]at an;have aF:=b3 t;rw[b5]at aF;simp only[aC]at aF;obtain⟨b,U,ann⟩:=aF;rcases an with q|⟨aS,arr,ak,ax,aO,aL,bg⟩
 ·rw[q]at U;simp[cb]at U
 ·have oR:aS=b:=by rw[ak]at U;simpa [cb]using U
  subst oR
  let bq:bG:=I.on λec o=>if ec=aS then arr[o]? else I ec o
  have hle:cV I bq:=λec o v aa=>by
   cases o with
   |none=>exact aa
   |some o=>
   show(if ec=aS then arr[o]? else I ec o)=some v;split
   ·rename_i b0;subst b0;rw[aL]at aa;cases aa
   ·exact aa
  have jH:∀ec o,ec≠aS→bq ec o=I ec o:=λec o cA=>by
   cases o with
   |none=>rfl
   |some o=>
   show(if ec=aS then arr[o]? else I ec o)=_;rw[if_neg cA]
  have nL:∀d o,(σ.minus [C]).get d=some o→d≠C∧σ.get d=some o:=λd o af=>by
   rw[avK]at af;split at af
   ·cases af
   ·rename_i hm;exact⟨by simpa using hm,af⟩
  have UY:∀d,((σ.minus [C]).get d).isSome→(σ.get d).isSome:=λd af=>by
   obtain⟨o,an⟩:=Option.isSome_iff_exists.1 af;rw[(nL d o an).2];rfl
  have i4:l1 bq aS cs 0:=ds.row hle cs arr.toList 0 (Pm ah aO) λj aY=>by
   show(if aS=aS then arr[0+j]? else I aS (some (0+j)))=_;rw[if_pos rfl];simp
  refine⟨bq,β,{good:=λec o v aa=>?_,iB:=h.iB,kg:=λec o v aa=>hle _ _ _ (h.kg _ _ _ aa),jX:=λec fu aX o=>?_,frame:=h.frame,size:=h.size,tape:=h.tape,os:=h.os,output:=h.output,drawn:=h.drawn,c4:=λd o af=>?_,ee:=λd dO af eB=>h.ee d dO (UY d af) (UY dO eB),keep:=h.keep},λao9=>?_⟩
  ·change (if ec=aS then arr[o]? else I ec o)=some v at aa
   split at aa
   ·rename_i b0;subst b0;simp only[World.cell?,ax];simpa using aa
   ·exact h.good ec o v aa
  ·have cA:ec≠aS:=λe=>by
    subst e;rcases bg with q|q
    ·omega
    ·exact aX q
   rw[jH ec o cA];exact h.jX ec fu aX o
  ·obtain⟨Nr,q0⟩:=nL d o af;refine(h.c4 d o q0).N4 hle jH λec fu cC=>?_;subst cC;exact h.ee d C (by rw[q0];rfl) (by rw[mz];rfl) Nr ec fu (kL U)
  ·rw[avQ];split
   ·rename_i e;subst e
    simp only[aC,bm];exact⟨aS,0,ann,i4⟩
   ·exact(b3.mono hle (h5.refl β)) ao9
end
section
variable {G:cR}{o:Oper}{ev:Operand→W}{σ:ag}
end
section
variable {P:Program}
def Yields.e7{G:cR}{o:Oper}{ev:Operand→W}{σ:ag}{eM R:dI}{f:Nat}{l:List W}(h:Yields G o ev σ eM R (.fn f l))(ah:nm l=true):Yields G o ev σ eM R (.e7 f l):=λaH cx I β w bn c3 av hm hop=>by
 have:=h aH cx I β w bn c3 av hm hop;generalize (execOp bn o).run G.P w=r at this
 have key:∀v w',(∃bq β',aC bq β' (.fn f l) v∧cz G cx bq β' aH w'∧cV I bq∧(∀d,d∉eM→β' d=β d))→∃bq β',aC bq β' (.e7 f l) v∧cz G cx bq β' aH w'∧cV I bq∧(∀d,d∉eM→β' d=β d):=λv w' ⟨bq,β',h1,D⟩=>by
  simp only[aC]at h1;obtain⟨vs,rfl,aq⟩:=h1;exact⟨bq,β',by simp only[aC,bm];exact⟨vs,rfl,Pm ah aq⟩,D⟩
 cases r with
 |halt x w'=>exact this.elim
 |ok n w'=>cases n with
  |value v=>exact key _ _ this
  |skip=>exact key _ _ this
  |enter f args=>exact Calls.mono this λe Bd ⟨v,h1,D⟩=>⟨v,h1,key _ _ D⟩
  |_=>exact this.elim
def MX(op:Op)(env:au):Option (dw×di):=match op with
 |.makeFunc (.func f) first aV=>match first.toList with
  |[]=>(match env.qL aV.toList with
   |some l=>bif nm l then some (.y [] (.e7 f l),([],[]))else none
   |_=>none)
  |_=>none
 |_=>none
def agX{o:Oper}{N:Nat}{ids:dI}{env:au}{σ:ag}{s:dw}{bc:di}(h:MX o.op env=some (s,bc)):gj ⟨P,N,ids⟩ o env σ s:=by
 unfold MX at h;split at h
 ·rename_i f first aV an;split at h
  ·rename_i bA;split at h
   ·rename_i l aJ;cases ah:nm l with
    |false=>rw[ah]at h;cases h
    |true=>
     rw[ah]at h;cases h
     have aK:first=#[]:=by simpa using congrArg toArray bA
     subst aK;exact Yields.e7 (b4.makeFunc an aJ) ah
   ·cases h
  ·cases h
 ·cases h
def E3:Hint P:=.gs false ([],[]) (λ_ op env _=>MX op env) λ_ _ _ _ _ _ _ h _=>agX h
end
end
section
section
variable {G:cR}{σ:ag}{o:Oper}{ev:Operand→W}
def TP{cx:fO}{I:bG}{β:Nat→Value}{w:World}(av:cz G cx I β σ w){d T t:Nat}{xs:List (List W)}(af:σ.get d=some (.hU T xs t))(aX:β d≠.nilFunc):
  ∃b aV arr,β d=.slice (some ⟨b,0,none⟩) (xs.length+1) aV∧xs.length+1≤aV∧aV≤maxLen∧w.heap[b]?=some (.cells arr T (0,0))∧arr.size=aV∧
    ds I xs.flatten (arr.toList.take xs.length)∧(∀e∈xs,e.length=1)∧arr[xs.length]?=some (β t)∧β t≠.nilFunc∧(∀o:Nat,I b o=none)∧Place cx b:=by
 have an:=av.c4 d _ af;simp only[bb,aX,false_or]at an;exact an
def aw9{T E d bp t:Nat}{xs:List (List W)}{x y:Operand}{k:IntKind}{i:Int}(h:o.op=.indexAddr T x y)(u:ev x=.own d)(ai:ev y=.int k i)(af:σ.get d=some (.hU bp xs t))(aT:lT G.P T E 1)
  (hi:0≤i∧i<(xs.length:Int)+1):Yields G o ev σ [] [d] (.ptr d i.toNat):=
 .pure λaH cx I β w bn c3 av hop=>by
  have h1:=hop x (by simp[h,Op.operands]);rw[u]at h1
  have D:=hop y (by simp[h,Op.operands]);rw[ai]at D;have D:=kY D
  simp only[aC]at h1;obtain⟨h1,Z⟩:=h1;have iI:β d≠.nilFunc:=λe=>by rw[h1,e]at Z;simp[i1]at Z
  obtain⟨b,aV,arr,ak,ax,aO,aL,_⟩:=TP av (by rw[c3 d (by simp)];exact af) iI;refine⟨.pointer (some ⟨b,i.toNat,none⟩),?_,by simp only[aC];exact⟨b,by rw[ak];rfl,rfl⟩⟩;have aK:∀w,(underlying T).run G.P w=.ok (.slice E) w:=λw=>by simp[underlying,program,Sem.run,aT.gT]
  rw[ak]at h1;have sQ:0≤i∧i<(xs.length:Int)+1:=hi;have amR:¬((xs.length:Int)+1≤i):=by omega
  simp[amR,execOp,h,h1,D,Instr.indexAt,asIntOf,aK,sQ,aT.size,mx]
def Rv{cx:fO}{I:bG}{β:Nat→Value}{w:World}(av:cz G cx I β σ w){d T t p:Nat}{xs:List (List W)}(af:σ.get d=some (.hU T xs t)){v:Value}(h1:aC I β (.ptr d p) v):
  ∃b arr,v=.pointer (some ⟨b,p,none⟩)∧w.heap[b]?=some (.cells arr T (0,0))∧ds I xs.flatten (arr.toList.take xs.length)∧(∀e∈xs,e.length=1)∧arr[xs.length]?=some (β t)∧β t≠.nilFunc∧xs.length+1≤arr.size:=by
 simp only[aC]at h1;obtain⟨b,h1,D⟩:=h1;have iI:β d≠.nilFunc:=λe=>by rw[e]at h1;cases h1
 obtain⟨aS,aV,arr,ak,ax,aO,aL,bg,bI,b7,cD,dz,dT,fG⟩:=TP av af iI;have oR:aS=b:=by rw[ak]at h1;simpa [cb]using h1
 subst oR;exact⟨aS,arr,D,aL,bI,b7,cD,dz,by omega⟩
def cE.HQ:cE→Bool
 |.map ..=>true
 |.hM ..=>true
 |_=>false
def axa{T d p bp t:Nat}{xs:List (List W)}{x:Operand}{j0:cE}(h:o.op=.load T x)(u:ev x=.ptr d p)(af:σ.get d=some (.hU bp xs t))(aF:p=xs.length)(b5:σ.get t=some j0)(hm:j0.HQ=true)(aT:dS G.P T 1 false):
  Yields G o ev σ [] [d,t] (.dm t):=
 .pure λaH cx I β w bn c3 av hop=>by
  have h1:=hop x (by simp[h,Op.operands]);rw[u]at h1
  obtain⟨b,arr,D,aL,bI,b7,cD,dz,dT⟩:=Rv av (by rw[c3 d (by simp)];exact af) h1
  have oS:∀j,j<1→∃v,[β t][j]?=some v∧w.cell? ⟨b,p+j,none⟩=some v:=λj aY=>by
   have:j=0:=by omega
   subst this;exact⟨β t,rfl,by subst aF;simp[World.cell?,aL,cD]⟩
  have aJ:=CF aT (vs:=[β t]) oS (λ_=>by omega);refine⟨β t,by simp[execOp,h,D,Instr.loadAt,Instr.sureAddr,aJ],?_⟩;simp only[aC,true_and];have an:=av.c4 t j0 (by rw[c3 t (by simp)];exact b5);cases j0<;>simp only[cE.HQ,reduceCtorEq]at hm
  ·simp only[bb,dz,false_or]at an;obtain⟨r,_,_,e,_⟩:=an;rw[e];rfl
  ·simp only[bb,dz,false_or]at an;obtain⟨r,e,_⟩:=an;rw[e];rfl
def Sf:∀{xs:List (List W)} {p:Nat} {a:W},(∀e∈xs,e.length=1)→xs[p]?=some [a]→xs.flatten[p]?=some a
 |[],_,_,_,h=>by simp at h
 |e::r,p,a,aJ,h=>by
  obtain⟨c,rfl⟩:∃c,e=[c]:=length_eq_one_iff.1 (aJ e (by simp));cases p with
  |zero=>simp at h;subst h;rfl
  |succ p=>simp only[flatten_cons,singleton_append,getElem?_cons_succ]at h ⊢;exact Sf (λe he=>aJ e (by simp[he])) h
def axb{T d p bp t:Nat}{xs:List (List W)}{x:Operand}{a:W}(h:o.op=.load T x)(u:ev x=.ptr d p)(af:σ.get d=some (.hU bp xs t))(aF:xs[p]?=some [a])(aT:dS G.P T 1 false):
  Yields G o ev σ [] [d] a:=
 .pure λaH cx I β w bn c3 av hop=>by
  have h1:=hop x (by simp[h,Op.operands]);rw[u]at h1
  obtain⟨b,arr,D,aL,bI,b7,cD,dz,dT⟩:=Rv av (by rw[c3 d (by simp)];exact af) h1;obtain⟨v,dc,dg⟩:=Kl (β:=β) (ds.rep β _ _ bI) (Sf b7 aF);have oW:p<xs.length:=(List.getElem?_eq_some_iff.1 aF).1;have gx:arr[p]?=some v:=by
   rw[getElem?_take,if_pos oW]at dc;simpa using dc
  have oS:∀j,j<1→∃dM,[v][j]?=some dM∧w.cell? ⟨b,p+j,none⟩=some dM:=λj aY=>by
   have:j=0:=by omega
   subst this;exact⟨v,rfl,by simp[World.cell?,aL,gx]⟩
  have aJ:=CF aT (vs:=[v]) oS (λ_=>by omega);exact⟨v,by simp[execOp,h,D,Instr.loadAt,Instr.sureAddr,aJ],dg⟩
def axL{s x:Operand}{T E bytes d d2 pz t be Hq:Nat}{cT:Bool}{xs:List (List W)}(h:o.op=.call ⟨.builtin .append,#[s,x],#[T,T]⟩)(Z:ev s=.own d)(af:σ.get d=some (.slice be 1 xs 0 cT))(u:ev x=.ja (.BY 1) pz)(fq:σ.get pz=some (.cells Hq [.dm t]))(aT:kO G.P T E 1 bytes)(iG:be=E)
  (U:(xs.length+1)*bytes≤140737488355328) (qY:xs.length+1≤maxLen) (hi:G.ids.contains d2=false)
  (ah:(σ.minus [d]).clean [d2].contains=true) (Nt:pz≠d) (XI:t≠d) :
  i2 G o ev σ [d,d2] [d2] (λr aH=>r=.own d2∧aH=(d2,.hU be xs t)::σ.minus [d]):=by
 subst iG;intro cx I β w bn av hop;have fc:=hop s (by simp[h,Op.operands,Call.operands]);rw[Z]at fc;simp only[aC]at fc;obtain⟨fc,eg⟩:=fc;have cr:=hop x (by simp[h,Op.operands,Call.operands]);rw[u]at cr;simp only[aC]at cr;obtain⟨zB,mV,cr⟩:=cr;have cr:bn x=.slice (some ⟨zB,0,none⟩) 1 1:=cr;obtain⟨i,z,hB,ji,hN,nv,tT⟩:=aT.info;have amw:(σ.minus [d]).get pz=some (.cells Hq [.dm t]):=by rw[avK,if_neg (by simpa using Nt)];exact fq
 have VX:t≠d2:=λe=>by
  have:=(avI ah pz _ amw).2;simp[n2,qa,W.refs,e]at this
 have uO:w.cell? ⟨zB,0,none⟩=some (β t)∧nV (β t)=true:=by
  have No:β pz≠.nilFunc:=λe=>by rw[e]at mV;cases mV
  have an:=av.c4 pz _ fq;simp only[bb,No,false_or]at an;obtain⟨b,arr,ak,ax,aO,_⟩:=an;have:b=zB:=by rw[ak]at mV;simpa [cb]using mV
  subst this;simp only[b8,aC]at aO;obtain⟨aR,us,aK,⟨e2,dj⟩,fF⟩:=aO;subst fF;have:arr[0]?=some aR:=by
   have:arr.toList[0]?=some aR:=by rw[aK];rfl
   simpa using this
  rw[e2]at this dj;exact⟨by simp[World.cell?,ax,this],dj⟩
 have vM:β t≠.nilFunc:=λe=>by rw[e]at uO;simp[nV]at uO
 have nr:∀v∈[β t],v.oneCell'=true:=λv aa=>by
  rw[List.mem_singleton.1 aa];have:=uO.2;cases Cl:β t<;>rw[Cl]at this<;>simp[nV]at this<;>rfl
 have nN:xs.length+1≤9223372036854775807:=by simp only[maxLen]at qY;omega
 have qB:cz G cx I β (σ.minus [d]) w:=av.sub λx bc u=>by rw[avK]at u;split at u<;>first|cases u|exact u
 have rP:=qB.qJ (eM:=[d2]) (σ2:=(d2,.hU be xs t)::σ.minus [d]) (env:=[]) ⟨λx u=>by rw[avA,if_neg (λe=>u (by simp[e]))],λx u=>by simp at u;subst u;simpa using hi,rfl,ah,λx u cW n h=>by simp at u;subst u;rw[avA,if_pos rfl]at h;cases h⟩;have h8:∀x,x≠d2→gY β [d2] x=β x:=λx u=>by simp[gY,u]
 have fin:∀(dM:Value) (w':World) (b:Nat),(execOp bn o).run G.P w=.ok (.value dM) w'→i1 dM=true→g1 w w' b→Place cx b→(∀x,((σ.minus [d]).get x).isSome→b∉dA (β x))→
   (∀(o:Nat) v,I b o=some v→w'.cell? ⟨b,o,none⟩=some v)→I b none=none→(cb dM=some b∨dA dM=[])→bb cx I (hy β d2 dM) w' d2 (.hU be xs t)→
   pN G.P (λv w'=>∃(b9:W) (aH:ag) (bq:bG) (β':Nat→Value),(b9=.own d2∧aH=(d2,cE.hU be xs t)::σ.minus [d])∧aC bq β' b9 v∧cz G cx bq β' aH w'∧cV I bq∧(∀x,x∉[d2]→β' x=β x)∧(∀x,x∉[d,d2]→aH.get x=σ.get x)) ((execOp bn o).run G.P w):=by
  intro dM w' b eV jh hk aF rN A6 Ag ga cG;rw[eV];refine⟨.own d2,_,I,hy β d2 dM,⟨rfl,rfl⟩,by simp only[aC,gX,jh,and_self],?_,cV.refl I,λx u=>iu β dM (by simpa using u),λx u=>?_⟩
  ·refine rP.turn (d:=d2) hk aF (λ_ _=>rfl) (λx u nN e=>?_) (cV.refl I) (λ_ _ _=>rfl) A6 Ag (λx u=>by rw[iu β dM u,h8 x u]) (.inl (by simpa using hi)) (λx=>?_) (by rw[gX];exact ga) (λbc mD=>?_)
   ·rw[avA,if_neg (Ne.symm u)]at nN;rw[h8 x u]at e;exact rN x nN e
   ·by_cases u:x=d2
    ·left;simp[gY,u]
    ·right;rw[iu β dM u,h8 x u]
   ·rw[avA,if_pos rfl]at mD;injection mD with mD
    subst mD;exact cG
  ·have u:x≠d∧x≠d2:=by simpa using u
   rw[avA,if_neg (Ne.symm u.2),avK,if_neg (by simpa using u.1)]
 have r3:∀b,cb (β d)=some b→∀x,((σ.minus [d]).get x).isSome→b∉dA (β x):=λb ga x u e=>by
  rw[avK]at u;split at u
  ·cases u
  ·rename_i pK;exact av.ee x d u (by rw[af];rfl) (by simpa using pK) b e (kL ga)
 have fresh:∀x,((σ.minus [d]).get x).isSome→w.heap.size∉dA (β x):=λx u e=>by
  obtain⟨bc,u⟩:=Option.isSome_iff_exists.1 u;exact absurd (qB.uc u e) (by omega)
 have x9:I w.heap.size none=none:=av.jG (Nat.le_refl _) none;have y0:∀(w':World) (o:Nat) v,I w.heap.size o=some v→w'.cell? ⟨w.heap.size,o,none⟩=some v:=λw' o v aa=>by rw[av.jG (Nat.le_refl _)]at aa;cases aa
 have ud:∀nD,nD<xs.length+1→xs.length+1≤grownCap w (xs.length+1) nD be∧grownCap w (xs.length+1) nD be≤maxLen:=λnD _=>⟨grownCap_ge _ _ _ _,grownCap_le_maxLen _ _ _ _ qY⟩
 have kr:∀j aR,[β t][j]?=some aR→w.cell? ((⟨zB,0,none⟩:Addr).add j)=some aR:=λj aR hu=>by
  cases j with
  |zero=>simp at hu;subst hu;rw[mx];exact uO.1
  |succ j=>simp at hu
 have vV:∀(iJ:dQ) (aV:Nat),ds I xs.flatten iJ→iJ.length=xs.length→(∀e∈xs,e.length=1)→xs.length+1≤aV→aV≤maxLen→
   bb cx I (hy β d2 (.slice (some ⟨w.heap.size,0,none⟩) (xs.length+1) aV)) (w.drew.alloc (.cells (iJ.toArray++[β t].toArray++Builtin.zeroCells z.cells (aV-(xs.length+1))) be)) d2 (.hU be xs t):=by
  intro iJ aV oV l5 Fb qv sN;simp only[bb,gX,iu β _ VX];refine .inr ⟨w.heap.size,aV,_,rfl,qv,sN,heap_alloc_new w.drew _,?_,?_,Fb,?_,vM,λo=>av.jG (Nat.le_refl _) o,.inl av.size⟩
  ·simp only[Array.size_append,size_toArray,size_zeroCells,tT,l5,length_cons,length_nil,Nat.mul_one];omega
  ·have:(iJ.toArray++[β t].toArray++Builtin.zeroCells z.cells (aV-(xs.length+1))).toList.take xs.length=iJ:=by
    simp only[Array.toList_append,List.append_assoc];rw[←l5];exact take_left
   rw[this];exact oV
  ·have:(iJ.toArray++[β t].toArray++Builtin.zeroCells z.cells (aV-(xs.length+1))).toList[xs.length]?=some (β t):=by
    simp only[Array.toList_append,List.append_assoc];rw[List.getElem?_append_right (by simp[l5])];simp[l5]
   rw[←Array.getElem?_toList];exact this
 have ue:∀bc,g1 w (w.drew.alloc bc) w.heap.size:=λbc=>(g1.alloc w.drew bc).drew;have an:=av.c4 d _ af;simp only[bb,Nat.mul_one]at an;rcases an with q|⟨q,rfl,-⟩|⟨b,aV,arr,ak,ax,aO,aL,bg,bI,b7,cD,dz,dT,fG⟩
 ·rw[q]at fc;rw[fc]at eg;simp[i1]at eg
 ·have aI:=run_append_nil (P:=G.P) w T o.type be i z aT.gT hB ji ⟨zB,0,none⟩ 1 1 [β t] (by rw[hN];rfl) kr (by omega) (by omega) (by simp at U;rw[nv];omega);obtain⟨dc,dg⟩:=ud 0 (by simp);simp only[length_nil,Nat.zero_add]at dc dg;refine fin _ _ w.heap.size (pt h (by rw[fc,cr,q];exact aI)) rfl (ue _) (.inl av.size) fresh (y0 _) x9 (.inl rfl) ?_;have:=vV [] (grownCap w 1 0 be) rfl (by simp) (by simp) (by simpa using dc) dg;simpa using this
 ·have ga:cb (β d)=some b:=by rw[ak];rfl
  have bS:=hQ aL;have uM:arr.toList.length=aV:=by simpa using bg
  have p5:xs.length≤arr.toList.length:=by omega
  have Fa:∀o:Nat,I b o=none:=λo=>dT o (by omega);by_cases oA:xs.length+1≤aV
  ·have aI:=run_append_room (P:=G.P) w T o.type be i aT.gT hB b xs.length aV arr aL ⟨zB,0,none⟩ 1 1 [β t] (by rw[hN];rfl) kr nr oA (by rw[hN,Nat.mul_one,bg];exact oA);rw[hN,Nat.mul_one]at aI;refine fin _ _ b (pt h (by rw[fc,cr,ak];exact aI)) rfl (g1.setRow w b _) fG (r3 b ga) (λo v aa=>by rw[Fa o]at aa;cases aa) (av.tK aL) (.inl rfl) ?_;have b0:=setRow_heap w b arr (arr.toList.take xs.length++[β t]++arr.toList.drop (xs.length+[β t].length)).toArray be (0,0) aL;simp only[bb,gX,iu β _ VX];refine .inr ⟨b,aV,_,rfl,oA,aO,b0,?_,?_,b7,?_,vM,Fa,fG⟩
   ·simp;omega
   ·have:(arr.toList.take xs.length++[β t]++arr.toList.drop (xs.length+[β t].length)).take xs.length=arr.toList.take xs.length:=by
     rw[List.append_assoc,take_append_of_le_length (by rw[length_take];omega),take_take,Nat.min_self]
    simp only at this ⊢;rw[this];exact bI
   ·have:(arr.toList.take xs.length++[β t]++arr.toList.drop (xs.length+[β t].length))[xs.length]?=some (β t):=by
     rw[List.append_assoc,List.getElem?_append_right (by rw[length_take];omega)];rw[length_take,Nat.min_eq_left p5,Nat.sub_self];rfl
    rw[←Array.getElem?_toList];exact this
  ·have qz:(arr.toList.take xs.length).length=xs.length:=by rw[length_take,Nat.min_eq_left p5]
   have holds:∀j v,(arr.toList.take xs.length)[j]?=some v→w.cell? ((⟨b,0,none⟩:Addr).add j)=some v:=λj v aa=>by
    rw[mx];rw[getElem?_take]at aa;split at aa
    ·simp only[World.cell?,aL,Nat.zero_add];simpa using aa
    ·cases aa
   have aI:=run_append_grow (P:=G.P) w T o.type be i z aT.gT hB ji ⟨b,0,none⟩ xs.length aV _ (by rw[hN,Nat.mul_one];exact qz) holds ⟨zB,0,none⟩ 1 1 [β t] (by rw[hN];rfl) kr (by omega) (by omega) (growslice_fits (by omega) (by rw[nv];exact U));obtain⟨dc,dg⟩:=ud aV (by omega);exact fin _ _ w.heap.size (pt h (by rw[fc,cr,ak];exact aI)) rfl (ue _) (.inl av.size) fresh (y0 _) x9 (.inl rfl) (vV _ _ bI qz b7 dc dg)
end
end
section
def awO{G:cR}{env:au}{σ:ag}(d t:Nat){T K E:Nat}{xs:List (List W)}{bL:List (W×W)}(af:σ.get d=some (.hU T xs t))(b5:σ.get t=some (.k3 K E bL)):
  cB G env σ env (σ.set d (.slice T 1 (xs++[[.c7 bL]]) 0 false)):=λcx I β a w h b3=>by
 refine⟨I,β,C8 af h ?_,b3⟩;have an:=h.c4 d _ af;have hm:=h.c4 t _ b5;simp only[bb]at an hm ⊢;rcases an with q|⟨b,aV,arr,ak,ax,aO,aL,bg,bI,b7,cD,dz,dT,fG⟩
 ·exact .inl q
 ·obtain⟨r,es,clock,de,ew,e1,iS,pe⟩:=hm.resolve_left dz;refine .inr (.inr ⟨b,aV,arr,by rw[ak];simp,by simpa using ax,aO,aL,by omega,?_,λe he=>?_,by simp,by simp,λo _=>dT o,fG⟩)
  ·have bS:xs.length<arr.toList.length:=by simpa using (Array.getElem?_eq_some_iff.1 cD).1
   have aK:arr.toList[xs.length]?=some (β t):=by simpa using cD
   have e2:arr.toList.take ((xs++[[W.c7 bL]]).length*1)=arr.toList.take xs.length++[β t]:=by
    rw[length_append,length_singleton,Nat.mul_one,take_add_one,aK];rfl
   rw[e2,List.flatten_append];refine(oL _ _ _).2 ⟨_,_,rfl,bI,?_⟩;simp only[flatten_cons,flatten_nil,append_nil,ds,bm];exact⟨β t,[],rfl,⟨r,es,clock,de,ew,e1,pe⟩,rfl⟩
  ·rcases List.mem_append.1 he with he|he
   ·exact b7 e he
   ·rw[List.mem_singleton.1 he];rfl
def oh(k:IntKind)(n:Int)(es:ia)(clock:Nat):Nat:=match Instr.findNow (.int k) (.int k n) es.toList 0 with
 |some (some (j,_))=>((es[j]?).map (·.born)).getD 0
 |_=>clock
def lF(k:IntKind)(n:Int)(z:Value)(es:ia)(clock:Nat):ia:=match Instr.findNow (.int k) (.int k n) es.toList 0 with
 |some (some _)=>es
 |_=>es.push ⟨.int k n,z,clock⟩
def tr(k:IntKind)(n:Int)(es:ia)(clock:Nat):Nat:=match Instr.findNow (.int k) (.int k n) es.toList 0 with
 |some (some _)=>clock
 |_=>clock+1
def YC(kd:TypeDesc)(key:Value)(B:nc):∀(A:nc) (i:Nat),Instr.findNow kd key A i=some none→Instr.findNow kd key (A++B) i=Instr.findNow kd key B (i+A.length)
 |[],i,_=>rfl
 |e::A,i,h=>by
  simp only[Instr.findNow,cons_append]at h ⊢;cases Z:Instr.sameNow kd key e.key with
  |none=>rw[Z]at h;cases h
  |some b=>
   cases b with
   |true=>rw[Z]at h;cases h
   |false=>
    rw[Z]at h;simp only at h ⊢;rw[YC kd key B A (i+1) h,length_cons];congr 1;omega
def Z5{α:Type}{l:Array α}{j:Nat}{f:α→α}(h:∀e,l[j]?=some e→f e=e):l.modify j f=l:=by
 apply Array.ext_getElem?;intro i;rw[Array.getElem?_modify];split
 ·rename_i aY;subst aY;cases he:l[j]? with
  |none=>rfl
  |some e=>simp[h e he]
 ·rfl
def Ge{α:Type}(n:Int)(v:α):∀l:List (Int×α),az (bH l n v) n=some v
 |[]=>by simp[bH,az]
 |p::r=>by
  unfold bH;split
  ·simp[az]
  ·rename_i aF;have:=Ge n v r;unfold az at this ⊢;rw[find?_cons_of_neg (by simpa using aF)];exact this
def Q2{α:Type}{n:Int}:∀{l:List (Int×α)} {v:α},az l n=some v→bH l n v=l
 |[],_,h=>by simp[az]at h
 |p::r,v,h=>by
  unfold bH;unfold az at h;split
  ·rename_i aF;rw[find?_cons_of_pos (by simpa using aF)]at h;simp at h;obtain⟨de,ew⟩:=p;simp only at aF h;rw[aF,h]
  ·rename_i aF;rw[find?_cons_of_neg (by simpa using aF)]at h;rw[Q2 (l:=r) h]
def Px{α:Type}(n:Int)(aR v:α):∀l:List (Int×α),bH (bH l n aR) n v=bH l n v
 |[]=>by simp[bH]
 |p::r=>by
  by_cases aF:p.1=n
  ·simp[bH,aF]
  ·simp[bH,aF,Px n aR v r]
section
variable {G:cR}{σ:ag}{o:Oper}{ev:Operand→W}
def axI{α:Type}{T K E d clock:Nat}{k:IntKind}{x y:Operand}{n:Int}{es:ia}{z:Value}(l:List (Int×α))(enc:α→W)(sk:α)(h:o.op=.mapEntry T x y)(u:ev x=.dm d)(ai:ev y=.int k n)
  (af:σ.get d=some (.hM es clock K E (bM k enc l))) (aT:k4 G.P T K E k) (hz:∀w,(zeroValue E).run G.P w=.ok z w) (Fm:∀I,bm I (enc sk) z) :
  i2 G o ev σ [d] [] (λr aH=>r=.c5 [.fP,.int .i64 (oh k n es clock:Int)]∧aH=σ.set d (.hM (lF k n z es clock) (tr k n es clock) K E (bM k enc (bH l n ((az l n).getD sk))))):=by
 intro cx I β w bn av hop;have h1:=hop x (by simp[h,Op.operands]);rw[u]at h1
 have D:=hop y (by simp[h,Op.operands]);rw[ai]at D;have D:=kY D
 simp only[aC]at h1;obtain⟨h1,rL⟩:=h1;have iI:β d≠.nilFunc:=λe=>by rw[h1,e]at rL;simp[nV]at rL
 have an:=av.c4 d _ af;simp only[bb,iI,false_or]at an;obtain⟨r,ak,ax,aO,aL,bg,bI⟩:=an;have aK:∀w,(underlying T).run G.P w=.ok (.map K E) w:=λw=>by simp[underlying,program,Sem.run,aT.gT]
 have e2:∀w,(underlying K).run G.P w=.ok (.int k) w:=λw=>by simp[underlying,program,Sem.run,aT.key]
 have dj:=w6 (P:=G.P) ax;have fF:=CL (P:=G.P) aT.key false n w
 have h8:∀bc:Obj,(setObj r bc).run G.P w=.ok () {w with heap:=w.heap.setIfInBounds r bc}:=λbc=>by
  have:=hQ ax;simp[setObj,Sem.run,ax]
 have m5:bn x=.map (some r):=by rw[h1,ak]
 have xm:∃v,(execOp bn o).run G.P w=.ok (.value (.tuple #[v,.int .i64 (oh k n es clock:Int)])) {w with heap:=w.heap.setIfInBounds r (.map (lF k n z es clock) (tr k n es clock))}∧fm I (bM k enc (bH l n ((az l n).getD sk))) (lF k n z es clock).toList∧km (lF k n z es clock) (tr k n es clock):=by
  cases bw:az l n with
  |none=>
   obtain⟨de,ew⟩:=FY n l es.toList 0 aO bw;have g3:(Instr.findKey K (.int k n) es.toList).run G.P w=.ok none w:=by simp[Instr.findKey,e2,de]
   have ec:oh k n es clock=clock:=by unfold oh;rw[de]
   have dY:lF k n z es clock=es.push ⟨.int k n,z,clock⟩:=by unfold lF;rw[de]
   have hb:tr k n es clock=clock+1:=by unfold tr;rw[de]
   rw[ec,dY,hb];refine⟨z,by simp[execOp,h,Instr.mapEntry,m5,D,aK,dj,fF,g3,h8,hz,goInt],?_,bI.push _ _⟩;simpa using ew sk ⟨.int k n,z,clock⟩ (Fm I) rfl
  |some a=>
   obtain⟨j,aR,de,ew,cC,e1,iS,pe⟩:=FX n l es.toList 0 a aO bw;have g3:(Instr.findKey K (.int k n) es.toList).run G.P w=.ok (some (0+j,aR)) w:=by simp[Instr.findKey,e2,de]
   have jy:es[j]?=some cC:=by simpa using e1
   have ow:(Instr.keyThatStays (.int k n) (.int k n)).run G.P w=.ok (.int k n) w:=by simp[Instr.keyThatStays,Instr.sameBits]
   have ec:oh k n es clock=cC.born:=by unfold oh;rw[de];simp[jy]
   have dY:lF k n z es clock=es:=by unfold lF;rw[de]
   have hb:tr k n es clock=clock:=by unfold tr;rw[de]
   have j3:es.modify j (λe=>{e with key:=.int k n})=es:=Z5 λe he=>by
    rw[jy]at he;cases he;rw[←iS]
   rw[ec,dY,hb];refine⟨aR,by simp[execOp,h,Instr.mapEntry,m5,D,aK,dj,fF,g3,h8,jy,iS,ow,goInt,j3],?_,bI⟩;rw[show(some a:Option α).getD sk=a from rfl,Q2 bw];exact aO
 obtain⟨v,eV,iG,c1⟩:=xm;rw[eV];refine⟨.c5 [.fP,.int .i64 (oh k n es clock:Int)],_,I,β,⟨rfl,rfl⟩,by simp[aC,b8,bm],?_,cV.refl I,λ_ _=>rfl,λx u=>by rw[avE,if_neg (by simpa using u)]⟩;have ga:cb (β d)=some r:=by rw[ak];rfl
 refine av.turn (d:=d) (avO w r _) bg (λx u=>by rw[avE,if_neg u]) (λx u Z e=>av.ee x d Z (by rw[af];rfl) u r e (kL ga)) (cV.refl I) (λ_ _ _=>rfl)
  (λo v aa=>by rw[aL o]at aa;cases aa) (aL none) (λ_ _=>rfl) (.inr rfl) (h5.refl β) (.inl ga) λbc cG=>?_
 rw[avE,if_pos rfl,af]at cG;injection cG with cG
 subst cG;simp only[bb];exact .inr ⟨r,ak,by have:=hQ ax;simp[Array.getElem?_setIfInBounds,this],iG,aL,bg,c1⟩
def aiW{I:bG}{α:Type}{k:IntKind}{n:Int}{es:ia}{clock:Nat}{z:Value}{l:List (Int×α)}{enc:α→W}{a:α}(iG:fm I (bM k enc l) (lF k n z es clock).toList)(c1:km (lF k n z es clock) (tr k n es clock))(bw:az l n=some a):
  ∃j e,(lF k n z es clock).findIdx? (λe=>(e.born:Int)==(oh k n es clock:Int))=some j∧(lF k n z es clock)[j]?=some e∧e.key=.int k n∧
   ∀(b:α) (aR:Value),bm I (enc b) aR→fm I (bM k enc (bH l n b)) ((lF k n z es clock).modify j λe=>{e with val:=aR}).toList:=by
 obtain⟨j,aR,de,ew,cC,e1,iS,pe⟩:=FX n l _ 0 a iG bw;have U:cC.born=oh k n es clock:=by
  cases bA:Instr.findNow (.int k) (.int k n) es.toList 0 with
  |none=>
   have ec:oh k n es clock=clock:=by unfold oh;rw[bA]
   have dY:lF k n z es clock=es.push ⟨.int k n,z,clock⟩:=by unfold lF;rw[bA]
   rw[dY]at de;exfalso;rw[Array.toList_push]at de;have:∀(A B:nc) (i:Nat),Instr.findNow (.int k) (.int k n) A i=none→Instr.findNow (.int k) (.int k n) (A++B) i=none:=by
    intro A B;induction A with
    |nil=>intro i h;cases h
    |cons c A bu=>
     intro i h;simp only[Instr.findNow,cons_append]at h ⊢;cases Z:Instr.sameNow (.int k) (.int k n) c.key with
     |none=>rfl
     |some b=>
      cases b with
      |true=>rw[Z]at h;cases h
      |false=>rw[Z]at h;exact bu (i+1) h
   rw[this _ _ 0 bA]at de;cases de
  |some q=>
   cases q with
   |none=>
    have ec:oh k n es clock=clock:=by unfold oh;rw[bA]
    have dY:lF k n z es clock=es.push ⟨.int k n,z,clock⟩:=by unfold lF;rw[bA]
    rw[dY,Array.toList_push,YC _ _ _ _ _ bA]at de;have aY:j=es.size:=by
     simp only[Instr.findNow]at de;cases Z:Instr.sameNow (.int k) (.int k n) (Value.int k n)with
     |none=>rw[Z]at de;cases de
     |some b=>
      cases b with
      |true=>rw[Z]at de;simp at de;omega
      |false=>rw[Z]at de;cases de
    rw[dY,aY]at e1;simp at e1;rw[←e1,ec]
   |some q=>
    obtain⟨gC,v0⟩:=q;have dY:lF k n z es clock=es:=by unfold lF;rw[bA]
    rw[dY,bA]at de;have aY:gC=j:=by simp at de;omega
    rw[dY]at e1;have ec:oh k n es clock=((es[gC]?).map (·.born)).getD 0:=by unfold oh;rw[bA]
    have:es[j]?=some cC:=by simpa using e1
    rw[ec,aY,this];rfl
 have jy:(lF k n z es clock)[j]?=some cC:=by simpa using e1
 refine⟨j,cC,?_,jy,iS,λb aR hu=>?_⟩
 ·rw[Array.findIdx?_eq_some_iff_getElem];obtain⟨bS,he⟩:=Array.getElem?_eq_some_iff.1 jy;refine⟨bS,by rw[he];simp[U],λi hi=>?_⟩;intro ah;have ah:(lF k n z es clock)[i].born=oh k n es clock:=by
   have:((lF k n z es clock)[i].born:Int)=(oh k n es clock:Int):=by simpa using ah
   omega
  have h1:=c1.1;have:=pairwise_iff_getElem.1 h1 i j (by simp;omega) (by simpa using bS) hi;apply this;simp only[List.getElem_map,Array.getElem_toList];rw[ah,he,U]
 ·have:=pe b aR (λe=>{e with key:=.int k n,val:=aR}) hu (λe=>⟨rfl,rfl⟩)
  have ow:((lF k n z es clock).modify j λe=>{e with val:=aR}).toList=(lF k n z es clock).toList.modify j λe=>{e with key:=.int k n,val:=aR}:=by
   rw[Array.toList_modify];apply List.ext_getElem?;intro i;rw[List.getElem?_modify,List.getElem?_modify];by_cases jg:j=i
   ·subst jg;rw[e1];simp[←iS]
   ·simp[jg]
  rw[ow];exact this
def ayd{α:Type}{T K E d clock:Nat}{k:IntKind}{x y v:Operand}{n:Int}{es:ia}{z:Value}{a0:α}(l:List (Int×α))(enc:α→W)(a:α)(h:o.op=.entryStore T x y v)(u:ev x=.dm d)(ai:ev y=.int .i64 (oh k n es clock:Int))(aa:ev v=enc a)(ah:(enc a).closed=true)
  (af:σ.get d=some (.hM (lF k n z es clock) (tr k n es clock) K E (bM k enc l))) (bw:az l n=some a0) :
  i2 G o ev σ [d] [] (λr aH=>r=.undef∧aH=σ.set d (.map K E (bM k enc (bH l n a)))):=by
 intro cx I β w bn av hop;have h1:=hop x (by simp[h,Op.operands]);rw[u]at h1
 have D:=hop y (by simp[h,Op.operands]);rw[ai]at D;have D:=kY D
 have aq:=hop v (by simp[h,Op.operands]);rw[aa]at aq
 have aq:=aC.closed _ _ ah aq;simp only[aC]at h1;obtain⟨h1,rL⟩:=h1;have iI:β d≠.nilFunc:=λe=>by rw[h1,e]at rL;simp[nV]at rL
 have an:=av.c4 d _ af;simp only[bb,iI,false_or]at an;obtain⟨r,ak,ax,aO,aL,bg,bI⟩:=an;have dj:=w6 (P:=G.P) ax
 have h8:∀bc:Obj,(setObj r bc).run G.P w=.ok () {w with heap:=w.heap.setIfInBounds r bc}:=λbc=>by
  have:=hQ ax;simp[setObj,Sem.run,ax]
 have m5:bn x=.map (some r):=by rw[h1,ak]
 obtain⟨j,e,m1,m2,ua,AB⟩:=aiW aO bI bw
 have eV:(execOp bn o).run G.P w=.ok .skip {w with heap:=w.heap.setIfInBounds r (.map ((lF k n z es clock).modify j λe=>{e with val:=bn v}) (tr k n es clock))}:=by
  simp[execOp,h,Instr.entryStore,m5,D,dj,asInt,asIntOf,m1,h8]
 rw[eV];refine⟨.undef,_,I,β,⟨rfl,rfl⟩,by simp[aC,bm],?_,cV.refl I,λ_ _=>rfl,λx u=>by rw[avE,if_neg (by simpa using u)]⟩;have ga:cb (β d)=some r:=by rw[ak];rfl
 refine av.turn (d:=d) (avO w r _) bg (λx u=>by rw[avE,if_neg u]) (λx u Z e=>av.ee x d Z (by rw[af];rfl) u r e (kL ga)) (cV.refl I) (λ_ _ _=>rfl)
  (λo v aa=>by rw[aL o]at aa;cases aa) (aL none) (λ_ _=>rfl) (.inr rfl) (h5.refl β) (.inl ga) λbc cG=>?_
 rw[avE,if_pos rfl,af]at cG;injection cG with cG
 subst cG;simp only[bb];exact .inr ⟨r,_,_,ak,by have:=hQ ax;simp[Array.getElem?_setIfInBounds,this],AB a (bn v) aq,aL,bg,bI.modify _ _ λ_=>rfl⟩
end
end
section
open Go.ChangeMaps (setBlock)
section cert
variable {G:cR}{ops:mg}{K:au→ag→Prop}
def av7:∀{l:dI} {log VZ:List (Nat×dI)} {env:au} {σ:ag},h4 G ops ⟨false,[],[]⟩ log l env σ K→h4 G ops ⟨false,[],[]⟩ VZ l env σ K
 |[],_,_,_,_,h=>h
 |i::l,log,VZ,env,σ,h=>by
  obtain⟨o,an,h⟩:=h;refine⟨o,an,?_⟩;rcases h with⟨h1,D,aq⟩|⟨h1,D,eM,R,b9,σ2,aq,aZ,bV,dU,eR⟩|⟨h1,D,M,news,Φ,aq,aZ,bV,dU,eR⟩|⟨h1,D,aq⟩
  ·exact .inl ⟨h1,D,av7 aq⟩
  ·exact .inr (.inl ⟨h1,D,eM,R,b9,σ2,aq,aZ,bV,dU,av7 eR⟩)
  ·exact .inr (.inr (.inl ⟨h1,D,M,news,Φ,aq,(λh=>by cases h),bV,dU,λb9 aH bP=>av7 (eR b9 aH bP)⟩))
  ·exact .inr (.inr (.inr ⟨h1,D,av7 aq⟩))
def h4.append{ku:dI}:∀{q6:dI} {log:List (Nat×dI)} {env:au} {σ:ag},h4 G ops ⟨false,[],[]⟩ log q6 env σ (λe s=>h4 G ops ⟨false,[],[]⟩ [] ku e s K)→h4 G ops ⟨false,[],[]⟩ log (q6++ku) env σ K
 |[],_,_,_,h=>av7 h
 |i::l,log,env,σ,h=>by
  obtain⟨o,an,h⟩:=h;refine⟨o,an,?_⟩;rcases h with⟨h1,D,aq⟩|⟨h1,D,eM,R,b9,σ2,aq,aZ,bV,dU,eR⟩|⟨h1,D,M,news,Φ,aq,aZ,bV,dU,eR⟩|⟨h1,D,aq⟩
  ·exact .inl ⟨h1,D,h4.append aq⟩
  ·exact .inr (.inl ⟨h1,D,eM,R,b9,σ2,aq,aZ,bV,dU,h4.append eR⟩)
  ·exact .inr (.inr (.inl ⟨h1,D,M,news,Φ,aq,aZ,bV,dU,λb9 aH bP=>h4.append (eR b9 aH bP)⟩))
  ·exact .inr (.inr (.inr ⟨h1,D,h4.append aq⟩))
end cert
variable {id:Nat}
def av5{P:Program}{N:Nat}{ids:dI}{bY:hI}{env:au}{σ:ag}{Q:Exit→au→ag→Prop}(aU:kJ P bY){ops:mg}(n:Nat)(ku:dI)(Z:List (Nat×Hint P))(aK:au)(dV:ag){o:Oper}{M news:dI}{Φ:W→ag→Prop}
  (aJ:List.range ops.size=List.range n++n::ku) (af:xD N ops=true) (h1:uA bY ids ops ⟨false,[],[]⟩ ((List.range n).map λi=>(i,hintOf Z i)) [] env σ=some (aK,dV,(List.range n).map λi=>(hintOf Z i).exp))
  (an:ops[n]?=some o) (bw:o.guard=none) (dD:i2 ⟨P,N,ids⟩ o aK.ev dV M news Φ) (ah:aK.clean news.contains=true) (aX:news.all (λd=>!ids.contains d&&(dV.get d).isNone)=true)
  (k:∀b9 aH,Φ b9 aH→∃(eg:List (Nat×Hint P)) (e2:au) (eu:ag),uA bY ids ops ⟨false,[],[]⟩ (ku.map λi=>(i,hintOf eg i)) [] (aK.put o.dst b9) aH=some (e2,eu,ku.map λi=>(hintOf eg i).exp)∧Q .normal e2 eu):aP ⟨P,N,ids⟩ (.region id ops false) Q env σ:=by
 refine A.region af ?_;rw[aJ]
 have run:∀(Z:List (Nat×Hint P)) (l:dI) {K:au→ag→Prop} {e cC:au} {s dh:ag},uA bY ids ops ⟨false,[],[]⟩ (l.map λi=>(i,hintOf Z i)) [] e s=some (cC,dh,l.map λi=>(hintOf Z i).exp)→K cC dh→h4 ⟨P,N,ids⟩ ops ⟨false,[],[]⟩ [] l e s K:=λZ l K e cC s dh h g4=>by
  have:=yO (N:=N) (K:=K) aU h (by rw[List.map_map];rfl) g4;rw[List.map_map,show((λx:Nat×Hint P=>x.1)∘λi=>(i,hintOf Z i))=λi=>i from rfl,List.map_id']at this;exact this
 refine h4.append (run Z _ h1 ?_);refine⟨o,an,.inr (.inr (.inl ⟨?_,(λh=>by cases h),M,news,Φ,dD,(λh=>by cases h),ah,λd af=>?_,λb9 aH bP=>?_⟩))⟩
 ·simp only[j2,bw]
 ·have:=List.all_eq_true.1 aX d af;simpa using this
 ·obtain⟨eg,e2,eu,dc,dg⟩:=k b9 aH bP;exact run eg _ dc dg
section iter
variable {G:cR}{σ:ag}{o:Oper}{ev:Operand→W}
def PJ{cx:fO}{I:bG}{β:Nat→Value}{w:World}(av:cz G cx I β σ w){ck clock:Nat}{es:ia}{bL:List (W×W)}{seen:pE}(hi:σ.get ck=some (.kE es clock bL seen)){v:Value}(h1:aC I β (.ptr ck 0) v):
  ∃r gd,v=.pointer (some ⟨r,0,none⟩)∧cb (β ck)=some r∧w.heap[r]?=some (.mapIter (some gd) clock seen clock)∧w.heap[gd]?=some (.map es clock)∧I gd none=some (qF es clock)∧fm I bL es.toList∧km es clock∧(∀o,I r o=none)∧Place cx r∧β ck=.pointer (some ⟨r,0,none⟩):=by
 simp only[aC]at h1;obtain⟨b,h1,D⟩:=h1;have fM:β ck≠.nilFunc:=λe=>by rw[e]at h1;cases h1
 have an:=av.c4 ck _ hi;simp only[bb,fM,false_or]at an;obtain⟨r,gd,ak,ax,aO,aL,bg,bI,b7⟩:=an;have E0:b=r:=by rw[ak]at h1;simpa [cb]using h1.symm
 subst E0;obtain⟨hA,lY,dc,dg⟩:=av.iB gd _ aO;obtain⟨rfl,rfl⟩:=CY dg;exact⟨b,gd,D,h1,ax,dc,aO,aL,bg,bI,b7,ak⟩
def axQ{T K E ck:Nat}{x:Operand}{bL:List (W×W)}(h:o.op=.range T x)(u:ev x=.c7 bL)(aT:G.P.underlying T=some (.map K E))(hi:G.ids.contains ck=false)(ah:σ.clean [ck].contains=true):
  i2 G o ev σ [ck] [ck] (λr aH=>r=.ptr ck 0∧∃es clock,aH=(ck,.kE es clock bL #[])::σ):=by
 intro cx I β w bn av hop;have h1:=hop x (by simp[h,Op.operands]);rw[u]at h1
 simp only[aC,bm]at h1;obtain⟨gd,es,clock,ak,ax,aO,aL⟩:=h1;obtain⟨hA,lY,dc,dg⟩:=av.iB gd _ ax;obtain⟨rfl,rfl⟩:=CY dg;have eV:(execOp bn o).run G.P w=.ok (.value (.pointer (some ⟨w.heap.size,0,none⟩))) (w.alloc (.mapIter (some gd) clock #[] clock)):=by
  simp[execOp,h,ak,run_range_map w T K E gd es clock aT dc]
 rw[eV];have aa:=av.qJ (eM:=[ck]) (σ2:=σ) (env:=[]) ⟨λ_ _=>rfl,by simpa using hi,rfl,ah,λx u cW n h=>by have:=(avI ah x _ h).1;rw[List.contains_iff_mem.2 u]at this;cases this⟩;have U:∀y,y≠ck→hy (gY β [ck]) ck (.pointer (some ⟨w.heap.size,0,none⟩)) y=β y:=λy ai=>by rw[iu _ _ ai];simp[gY,ai]
 have uN:hy (gY β [ck]) ck (.pointer (some ⟨w.heap.size,0,none⟩)) ck=.pointer (some ⟨w.heap.size,0,none⟩):=gX _ _ _;refine⟨.ptr ck 0,_,I,hy (gY β [ck]) ck (.pointer (some ⟨w.heap.size,0,none⟩)),⟨rfl,es,clock,rfl⟩,?_,?_,cV.refl I,λy ai=>U y (by simpa using ai),λy ai=>by rw[avA,if_neg (Ne.symm (by simpa using ai))]⟩
 ·simp only[aC,uN];exact⟨w.heap.size,rfl,rfl⟩
 ·refine aa.turn (d:=ck) (g1.alloc w _) (.inl av.size) (λx u=>by rw[avA,if_neg (Ne.symm u)]) (λx u Z e=>by
    obtain⟨bc,Z⟩:=Option.isSome_iff_exists.1 Z;exact absurd (aa.uc Z e) (by omega)) (cV.refl I) (λ_ _ _=>rfl) (λhT dM o1=>by rw[av.jG (Nat.le_refl _)]at o1;cases o1) (av.jG (Nat.le_refl _) none)
   (λx u=>iu _ _ u) (.inl (by simpa using hi)) (avY (by simp[gY])) (.inl (by rw[uN];rfl)) λbc cG=>?_
  rw[avA,if_pos rfl]at cG;cases cG;simp only[bb,uN];exact .inr ⟨w.heap.size,gd,rfl,heap_alloc_new w _,ax,aO,aL,λo=>av.jG (Nat.le_refl _) o,.inl av.size⟩
def axS{ck clock:Nat}{x:Operand}{es:ia}{bL:List (W×W)}{seen:pE}(h:o.op=.next x false)(u:ev x=.ptr ck 0)(hi:σ.get ck=some (.kE es clock bL seen)):
  i2 G o ev σ [ck] [] (λr aH=>((leftOf es seen).size=0∧r=.c5 [.bool false]∧aH=σ)∨∃e∈(leftOf es seen).toList,r=.c5 [.bool true,.fP,.fP]∧aH=σ.set ck (.kE es clock bL (seen.push e.born))):=by
 intro cx I β w bn av hop;have h1:=hop x (by simp[h,Op.operands]);rw[u]at h1
 obtain⟨b,gd,D,ga,aO,ew,bI,b7,e1,aL,bg,ak⟩:=PJ av hi h1;rcases run_next_at (P:=G.P) w o.type b gd clock clock seen es clock aO ew e1.2 (Nat.le_refl _)with⟨dV,eu⟩|⟨e,dV,hP,eu,s3⟩
 ·have eV:(execOp bn o).run G.P w=.ok (.value (.tuple #[.bool false])) w:=by simp[execOp,h,D,eu]
  rw[eV];refine⟨.c5 [.bool false],σ,I,β,.inl ⟨dV,rfl,rfl⟩,?_,av,cV.refl I,λ_ _=>rfl,λ_ _=>rfl⟩;simp[aC,b8,bm]
 ·have eV:(execOp bn o).run G.P w=.ok (.value (.tuple #[.bool true,e.key,e.val])) (setBlock hP b (.mapIter (some gd) clock (seen.push e.born) clock)):=by simp[execOp,h,D,s3]
  rw[eV];refine⟨.c5 [.bool true,.fP,.fP],σ.set ck (.kE es clock bL (seen.push e.born)),I,β,.inr ⟨e,dV,rfl,rfl⟩,?_,?_,cV.refl I,λ_ _=>rfl,λy ai=>by rw[avE,if_neg (by simpa using ai)]⟩
  ·simp only[aC,b8,bm];exact⟨_,rfl,_,_,rfl,rfl,_,_,rfl,trivial,_,_,rfl,trivial,rfl⟩
  ·have hk:g1 w (setBlock hP b (.mapIter (some gd) clock (seen.push e.born) clock)) b:=by
    rcases eu with rfl|rfl
    ·exact avO _ b _
    ·exact g1.drew (avO _ b _)
   have b0:(setBlock hP b (.mapIter (some gd) clock (seen.push e.born) clock)).heap[b]?=some (.mapIter (some gd) clock (seen.push e.born) clock):=by
    have bS:=hQ aO;have:hP.heap=w.heap:=by rcases eu with rfl|rfl<;>rfl
    simp[setBlock,this,Array.getElem?_setIfInBounds,bS]
   refine av.turn (d:=ck) hk bg (λx u=>by rw[avE,if_neg u]) (λx u Z cC=>av.ee x ck Z (by rw[hi];rfl) u b cC (kL ga)) (cV.refl I) (λ_ _ _=>rfl)
    (λo v aa=>by rw[aL o]at aa;cases aa) (aL none) (λ_ _=>rfl) (.inr rfl) (h5.refl β) (.inl ga) λbc cG=>?_
   rw[avE,if_pos rfl,hi]at cG;injection cG with cG
   subst cG;simp only[bb];exact .inr ⟨b,gd,ak,b0,bI,b7,e1,aL,bg⟩
def axc{α:Type}{ck clock i:Nat}{k:IntKind}{x:Operand}{es:ia}{seen:pE}{e:MapEntry}{n:Int}{v:α}(l:List (Int×α))(enc:α→W)(h:o.op=.entry x)(u:ev x=.ptr ck 0)(hi:σ.get ck=some (.kE es clock (bM k enc l) (seen.push e.born)))
  (he:es[i]?=some e) (aX:l[i]?=some (n,v)):Yields G o ev σ [] [ck] (.c5 [.int k n,enc v]):=
 .pure λaH cx I β w bn c3 av hop=>by
  have h1:=hop x (by simp[h,Op.operands]);rw[u]at h1
  obtain⟨b,gd,D,ga,aO,ew,bI,b7,e1,aL,bg,ak⟩:=PJ av (by rw[c3 ck (by simp)];exact hi) h1;have p2:e∈es.toList:=by
   have:es.toList[i]?=some e:=by simpa using he
   exact List.mem_of_getElem? this
  have eV:(execOp bn o).run G.P w=.ok (.value (.tuple #[e.key,e.val])) w:=by simp[execOp,h,D,run_entry_at (P:=G.P) w b gd clock seen es clock e aO ew p2 e1.1]
  refine⟨_,eV,?_⟩;obtain⟨dV,eu⟩:=Gs b7 (i:=i) (a:=.int k n) (c:=enc v) (e:=e) (by simp[bM,aX]) (by simpa using he);simp only[aC,b8];exact⟨_,rfl,e.key,[e.val],rfl,dV,e.val,[],rfl,bm.rep β _ _ eu,rfl⟩
end iter
def Sg{I:bG}:∀{bL:List (W×W)} {es:nc},fm I bL es→es.length=bL.length
 |[],_,h=>by simp only[fm]at h;rw[h];rfl
 |(k,v)::r,_,h=>by
  simp only[fm]at h;obtain⟨e,us,rfl,_,_,aq⟩:=h;simp[Sg aq]
def abg{A:Type}[DecidableEq A]{a b:List A}(h:a.Nodup)(Z:∀x∈a,x∈b):a.length≤b.length:=by
 induction a generalizing b with
 |nil=>simp
 |cons x a bu=>
  rw[nodup_cons]at h;have u:=Z x (by simp);have:=bu (b:=b.erase x) h.2 λy ai=>(List.mem_erase_of_ne (λe=>h.1 (by rw[←e];exact ai))).2 (Z y (by simp[ai]));rw[length_erase_of_mem u]at this;have:=length_pos_of_mem u;simp only[length_cons];omega
variable {S α:Type}{b ck clock it t1 t2:Nat}{es:ia}
def ax0{eC:Type}{G:cR}{σ:ag}{env:au}{Q:Exit→au→ag→Prop}{fZ:eC→W}{enc:α→W}{l:List (eC×α)}{iR gP:Oper}{y:Code}
  (Inv:List (eC×α)→S→Prop) (mO:S) (gr:S→au) (gB:pE→S→ag) (oV:iR.op=.next (.tmp it) false∧iR.dst=some t1∧iR.guard=none) (l5:gP.op=.extract (.tmp t1) 0∧gP.dst=some t2∧gP.guard=none) (af:xD G.N #[iR,gP]=true)
  (bJ:Inv [] mO) (hit:∀g,(gr g).get it=.ptr ck 0) (Ai:∀seen g,(gB seen g).get ck=some (.kE es clock (jA fZ enc l) seen))
  (h8:∀seen g dh,(gB seen g).set ck (.kE es clock (jA fZ enc l) dh)=gB dh g) (av:cB G env σ (gr mO) (gB #[] mO))
  (body:∀(seen:pE) (e:MapEntry) (i:Nat) (n:eC) (v:α) (p:List (eC×α)) (g:S),es[i]?=some e→l[i]?=some (n,v)→p.length<l.length→Inv p g→
   aP G y (um (λg0 aH=>∃hY,Inv (p++[(n,v)]) hY∧cB G g0 aH (gr hY) (gB (seen.push e.born) hY)) Q) ((t2,.bool true)::(t1,.c5 [.bool true,.fP,.fP])::gr g) (gB (seen.push e.born) g))
  (cw:∀seen p g,p.Perm l→Inv p g→Q (.exit b) ((t2,.bool false)::(t1,.c5 [.bool false])::gr g) (gB seen g)) :
  aP G (.loop (.seq (.region id #[iR,gP] false) (.seq (.cond (.tmp t2) .skip (.exit b)) y))) Q env σ:=by
 refine A.loop (α:=pE×S) (λs=>gr s.2) (λs=>gB s.1 s.2) (λs=>∃p:dI,p.Nodup∧(∀i∈p,i<l.length)∧(∀(i:Nat) (e:MapEntry),es[i]?=some e→(s.1.contains e.born=true↔i∈p))∧Inv (j1 l p) s.2)
  (λs=>(leftOf es s.1).size) (#[],mO) ⟨[],nodup_nil,by simp,by simp,bJ⟩ av ?_
 rintro⟨seen,g⟩ ⟨p,de,ew,e1,iS⟩;refine awS (F:=es.size=l.length∧(es.toList.map (·.born)).Nodup) (λcx I β a w lP aT=>?_) λ⟨f1,f2⟩=>?_
 ·have h1:=aT it;rw[show(gr (seen,g).2).get it=.ptr ck 0 from hit g]at h1;obtain⟨b,gd,D,ga,aO,ew,bI,b7,e1,aL,bg,ak⟩:=PJ lP (Ai seen g) h1;have:=Sg b7;exact⟨by simpa [jA]using this,e1.1⟩
 have vE:au.get ((t2,.bool true)::(t1,.c5 [.bool true,.fP,.fP])::gr g) t2=.bool true:=by rw[avQ,if_pos rfl]
 have vD:au.get ((t2,.bool false)::(t1,.c5 [.bool false])::gr g) t2=.bool false:=by rw[avQ,if_pos rfl]
 refine A.seq (A.region af ?_);show h4 G #[iR,gP] ⟨false,[],[]⟩ [] [0,1] (gr g) (gB seen g) _;refine⟨iR,rfl,.inr (.inr (.inl ⟨by simp only[j2,oV.2.2],by simp,[ck],[],_,axS (x:=.tmp it) oV.1 (hit g) (Ai seen g),by simp,av9 _,by simp,λb9 aH sK=>?_⟩))⟩
 have ext:∀(vs:List W) (eU:Bool) (aH:ag) (K:au→ag→Prop),vs[0]?=some (.bool eU)→K ((t2,.bool eU)::(t1,.c5 vs)::gr g) aH→h4 G #[iR,gP] ⟨false,[],[]⟩ [] [1] ((gr g).put iR.dst (.c5 vs)) aH K:=λvs eU aH K aa g4=>by
  refine⟨gP,rfl,.inr (.inl ⟨by simp only[j2,l5.2.2],by simp,[],[],.bool eU,aH,awa _ _ _,by simp,by simp,b6.extract (x:=.tmp t1) l5.1 (by rw[oV.2.1];show au.get _ _=_;rw[au.put,avQ,if_pos rfl]) aa,?_⟩)⟩;rw[oV.2.1,l5.2.1];exact g4
 rcases sK with⟨h0,rfl,rfl⟩|⟨e,h0,rfl,rfl⟩
 ·refine ext _ false _ _ rfl ?_
  have kH:∀i,i∈p↔i<l.length:=λi=>⟨ew i,λbS=>by
   have yo:i<es.size:=by omega
   refine(e1 i es[i] (Array.getElem?_eq_getElem yo)).1 ?_;by_cases ah:seen.contains es[i].born=true
   ·exact ah
   ·exfalso;have:es[i]∈leftOf es seen:=by
     unfold leftOf;rw[Array.mem_filter];exact⟨Array.getElem_mem yo,by simpa using ah⟩
    have:leftOf es seen≠#[]:=λe=>by rw[e]at this;simp at this
    exact this (Array.eq_empty_of_size_eq_zero h0)⟩
  have aF:(j1 l p).Perm l:=by
   have:=(JR de kH).filterMap λi=>l[i]?;have e2:=Kc l;unfold j1 at e2 ⊢
   rwa [e2]at this
  refine A.seq (A.cond (b:=false) vD (λh=>by cases h) λ_=>A.exit ?_);exact cw seen _ g aF iS
 ·refine ext _ true _ _ rfl ?_;rw[h8 seen g];obtain⟨ej,gz⟩:=mem_left h0;obtain⟨i,hB⟩:=List.getElem?_of_mem ej;have hB:es[i]?=some e:=by simpa using hB
  have wV:i<l.length:=by have:=(Array.getElem?_eq_some_iff.1 hB).1;omega
  have mm:i∉p:=λh=>by
   have:=(e1 i e hB).2 h;rw[gz]at this;cases this
  have Cr:l[i]?=some (l[i].1,l[i].2):=List.getElem?_eq_getElem wV;have ja:(p++[i]).Nodup:=by
   rw[nodup_append];exact⟨de,by simp,λa aA c ah=>by simp only[List.mem_singleton]at ah;subst ah;exact λe=>mm (e▸aA)⟩
  have E8:∀j∈p++[i],j<l.length:=λj aY=>by
   rcases List.mem_append.1 aY with aY|aY
   ·exact ew j aY
   ·rw[List.mem_singleton.1 aY];exact wV
  have aK:j1 l (p++[i])=j1 l p++[(l[i].1,l[i].2)]:=by
   unfold j1;rw[List.filterMap_append];simp[filterMap_cons,List.getElem?_eq_getElem wV]
  refine A.seq (A.cond (b:=true) vE (λ_=>A.skip ?_) λh=>by cases h);refine(body seen e i l[i].1 l[i].2 _ g hB Cr (by
   have h1:=abg ja (b:=List.range l.length) λj aY=>List.mem_range.2 (E8 j aY);have D:(j1 l p).length≤p.length:=length_filterMap_le ..;rw[length_range,length_append]at h1;simp only[length_cons,length_nil]at h1;omega) iS).mono λex g0 aH bP=>?_
  cases ex with
  |normal=>
   obtain⟨hY,XB,Fe⟩:=bP;refine⟨(seen.push e.born,hY),⟨p++[i],ja,E8,λj cC aY=>?_,by rw[aK];exact XB⟩,left_shrinks es seen e h0,Fe⟩;rw[contains_push,Bool.or_eq_true,beq_iff_eq,e1 j cC aY,List.mem_append,List.mem_singleton];constructor
   ·rintro(h|h)
    ·exact .inl h
    ·right;have qx:es.toList[j]?=some cC:=by simpa using aY
     have sQ:es.toList[i]?=some e:=by simpa using hB
     have oy:=(List.getElem?_eq_some_iff.1 qx).1;have yl:=(List.getElem?_eq_some_iff.1 sQ).1;have dc:=(List.getElem?_eq_some_iff.1 qx).2;have dg:=(List.getElem?_eq_some_iff.1 sQ).2;have pw:=pairwise_iff_getElem.1 f2;rcases Nat.lt_trichotomy j i with q|q|q
     ·refine absurd ?_ (pw j i (by simpa using oy) (by simpa using yl) q);rw[List.getElem_map,List.getElem_map,dc,dg,h]
     ·exact q
     ·refine absurd ?_ (pw i j (by simpa using yl) (by simpa using oy) q);rw[List.getElem_map,List.getElem_map,dc,dg,h]
   ·rintro(h|h)
    ·exact .inl h
    ·subst h;rw[hB]at aY;cases aY;exact .inr rfl
  |_=>exact bP
def axZ{G:cR}{σ:ag}{env:au}{Q:Exit→au→ag→Prop}{k:IntKind}{enc:α→W}{l:List (Int×α)}{iR gP:Oper}{y:Code}
  (Inv:List (Int×α)→S→Prop) (mO:S) (gr:S→au) (gB:pE→S→ag) (oV:iR.op=.next (.tmp it) false∧iR.dst=some t1∧iR.guard=none) (l5:gP.op=.extract (.tmp t1) 0∧gP.dst=some t2∧gP.guard=none) (af:xD G.N #[iR,gP]=true)
  (bJ:Inv [] mO) (hit:∀g,(gr g).get it=.ptr ck 0) (Ai:∀seen g,(gB seen g).get ck=some (.kE es clock (bM k enc l) seen))
  (h8:∀seen g dh,(gB seen g).set ck (.kE es clock (bM k enc l) dh)=gB dh g) (av:cB G env σ (gr mO) (gB #[] mO))
  (body:∀(seen:pE) (e:MapEntry) (i:Nat) (n:Int) (v:α) (p:List (Int×α)) (g:S),es[i]?=some e→l[i]?=some (n,v)→Inv p g→
   aP G y (um (λg0 aH=>∃hY,Inv (p++[(n,v)]) hY∧cB G g0 aH (gr hY) (gB (seen.push e.born) hY)) Q) ((t2,.bool true)::(t1,.c5 [.bool true,.fP,.fP])::gr g) (gB (seen.push e.born) g))
  (cw:∀seen p g,p.Perm l→Inv p g→Q (.exit b) ((t2,.bool false)::(t1,.c5 [.bool false])::gr g) (gB seen g)) :
  aP G (.loop (.seq (.region id #[iR,gP] false) (.seq (.cond (.tmp t2) .skip (.exit b)) y))) Q env σ:=
 ax0 (fZ:=λn=>.int k n) Inv mO gr gB oV l5 af bJ hit Ai h8 av (λseen e i n v p g h1 D _ aq=>body seen e i n v p g h1 D aq) cw
end
section
section
variable {P:Program}
def KI(bp:Nat)(op:Op)(env:au)(σ:ag):Option (dw×di):=match op with
 |.indexAddr T x y=>(match env.dx x with
  |some (.own d)=>(match env.dx y with
   |some (.int k i)=>(match σ.get d with
    |some (.hU lU xs t)=>bif Nat.beq T bp then some (.y [d] (.ptr d i.toNat),([.int .i64 i],[(0,.hU 0 xs 0)]))else none
    |_=>none)
   |_=>none)
  |_=>none)
 |_=>none
def ags{bp E:Nat}{xs:List (List W)}{i:Int}(aT:lT P bp E 1)(hi:0≤i∧i<(xs.length:Int)+1){o:Oper}{N:Nat}{ids:dI}{env:au}{σ:ag}{s:dw}{bc:di}
  (h:KI bp o.op env σ=some (s,bc)) (he:bc=([.int .i64 i],[(0,.hU 0 xs 0)])):gj ⟨P,N,ids⟩ o env σ s:=by
 cases an:o.op<;>rw[an]at h
 case indexAddr T x y=>
  simp only[KI]at h;split at h
  ·rename_i d u;split at h
   ·rename_i k yA ai;split at h
    ·rename_i lU kU t af;cases ah:Nat.beq T bp with
     |false=>rw[ah]at h;cases h
     |true=>
      rw[ah]at h;have:=Nat.eq_of_beq_eq_true ah;subst this;cases h;simp only[Prod.mk.injEq,List.cons.injEq,W.int.injEq,cE.hU.injEq,and_true,true_and]at he;obtain⟨rfl,rfl⟩:=he;exact aw9 an (avz u) (avz ai) af aT hi
    ·cases h
   ·cases h
  ·cases h
 all_goals (simp only[KI]at h;cases h)
def Cz{bp E:Nat}{xs:List (List W)}{i:Int}(aT:lT P bp E 1)(hi:0≤i∧i<(xs.length:Int)+1):Hint P:=
 .gs false ([.int .i64 i],[(0,.hU 0 xs 0)]) (λ_=>KI bp) λ_ _ _ _ _ _ _ h he=>ags aT hi h he
def KJ(bp:Nat)(op:Op)(env:au)(σ:ag):Option (dw×di):=match op with
 |.load T x=>(match env.dx x with
  |some (.ptr d p)=>(match σ.get d with
   |some (.hU lU xs t)=>(match σ.get t with
    |some j0=>bif Nat.beq T bp&&j0.HQ then some (.y [d,t] (.dm t),([.ptr 0 p],[(0,.hU 0 xs 0)]))else none
    |_=>none)
   |_=>none)
  |_=>none)
 |_=>none
def agt{bp p:Nat}{xs:List (List W)}(aT:dS P bp 1 false)(aF:p=xs.length){o:Oper}{N:Nat}{ids:dI}{env:au}{σ:ag}{s:dw}{bc:di}
  (h:KJ bp o.op env σ=some (s,bc)) (he:bc=([.ptr 0 p],[(0,.hU 0 xs 0)])):gj ⟨P,N,ids⟩ o env σ s:=by
 cases an:o.op<;>rw[an]at h
 case load T x=>
  simp only[KJ]at h;split at h
  ·rename_i d tc u;split at h
   ·rename_i lU kU t af;split at h
    ·rename_i j0 b5;cases ah:(Nat.beq T bp&&j0.HQ)with
     |false=>rw[ah]at h;cases h
     |true=>
      rw[ah]at h;simp only[Bool.and_eq_true]at ah;have:=Nat.eq_of_beq_eq_true ah.1;subst this;cases h;simp only[Prod.mk.injEq,List.cons.injEq,W.ptr.injEq,cE.hU.injEq,and_true,true_and]at he;obtain⟨rfl,rfl⟩:=he;exact axa an (avz u) af aF b5 ah.2 aT
    ·cases h
   ·cases h
  ·cases h
 all_goals (simp only[KJ]at h;cases h)
def p5{bp p:Nat}{xs:List (List W)}(aT:dS P bp 1 false)(aF:p=xs.length):Hint P:=
 .gs false ([.ptr 0 p],[(0,.hU 0 xs 0)]) (λ_=>KJ bp) λ_ _ _ _ _ _ _ h he=>agt aT aF h he
def KK(bp:Nat)(a:W)(op:Op)(env:au)(σ:ag):Option (dw×di):=match op with
 |.load T x=>(match env.dx x with
  |some (.ptr d p)=>(match σ.get d with
   |some (.hU lU xs t)=>bif Nat.beq T bp then some (.y [d] a,([.ptr 0 p],[(0,.hU 0 xs 0)]))else none
   |_=>none)
  |_=>none)
 |_=>none
def agu{bp p:Nat}{xs:List (List W)}{a:W}(aT:dS P bp 1 false)(aF:xs[p]?=some [a]){o:Oper}{N:Nat}{ids:dI}{env:au}{σ:ag}{s:dw}{bc:di}
  (h:KK bp a o.op env σ=some (s,bc)) (he:bc=([.ptr 0 p],[(0,.hU 0 xs 0)])):gj ⟨P,N,ids⟩ o env σ s:=by
 cases an:o.op<;>rw[an]at h
 case load T x=>
  simp only[KK]at h;split at h
  ·rename_i d tc u;split at h
   ·rename_i lU kU t af;cases ah:Nat.beq T bp with
    |false=>rw[ah]at h;cases h
    |true=>
     rw[ah]at h;have:=Nat.eq_of_beq_eq_true ah;subst this;cases h;simp only[Prod.mk.injEq,List.cons.injEq,W.ptr.injEq,cE.hU.injEq,and_true,true_and]at he;obtain⟨rfl,rfl⟩:=he;exact axb an (avz u) af aF aT
   ·cases h
  ·cases h
 all_goals (simp only[KK]at h;cases h)
def CA{bp p:Nat}{xs:List (List W)}{a:W}(aT:dS P bp 1 false)(aF:xs[p]?=some [a]):Hint P:=
 .gs false ([.ptr 0 p],[(0,.hU 0 xs 0)]) (λ_=>KK bp a) λ_ _ _ _ _ _ _ h he=>agu aT aF h he
def KG(bp fk d2:Nat)(ids:dI)(op:Op)(env:au)(σ:ag):Option (dw×di):=match op with
 |.call c=>(match c.callee with
  |.builtin b=>(match b with
   |.append=>(match c.args.toList with
    |[s,x]=>(match c.argTypes.toList with
     |[T,be]=>(match env.dx s with
      |some (.own d)=>(match σ.get d with
       |some (.slice lU 1 xs 0 cT)=>(match env.dx x with
        |some (.ja (.BY 1) pz)=>(match σ.get pz with
         |some (.cells Hq [.dm t])=>bif Nat.beq T bp&&Nat.beq be bp&&Nat.beq lU fk&&!ids.contains d2&&(σ.minus [d]).clean [d2].contains&&!Nat.beq pz d&&!Nat.beq t d then
           some (.e [d,d2] [d2] (.own d2) ((d2,.hU lU xs t)::σ.minus [d]),([],[(0,.hU 0 xs 0)]))else none
         |_=>none)
        |_=>none)
       |_=>none)
      |_=>none)
     |_=>none)
    |_=>none)
   |_=>none)
  |_=>none)
 |_=>none
def agv{bp fk bytes d2:Nat}{xs:List (List W)}(eZ:kO P bp fk 1 bytes)(U:(xs.length+1)*bytes≤140737488355328)(qY:xs.length+1≤maxLen){o:Oper}{N:Nat}{ids:dI}{env:au}{σ:ag}{s:dw}{bc:di}
  (h:KG bp fk d2 ids o.op env σ=some (s,bc)) (he:bc=([],[(0,.hU 0 xs 0)])):gj ⟨P,N,ids⟩ o env σ s:=by
 cases an:o.op<;>rw[an]at h
 case call c=>
  obtain⟨cl,args,tys⟩:=c;simp only[KG]at h;split at h
  ·rename_i b;split at h
   ·split at h
    ·rename_i dV x n5;have:args=#[dV,x]:=Array.toList_inj.1 (by simpa using n5);subst this;split at h
     ·rename_i T be Bi;have:tys=#[T,be]:=Array.toList_inj.1 (by simpa using Bi);subst this;split at h
      ·rename_i d Z;split at h
       ·rename_i lU kU cT af;split at h
        ·rename_i pz u;split at h
         ·rename_i Hq t fq;cases ah:(Nat.beq T bp&&Nat.beq be bp&&Nat.beq lU fk&&!ids.contains d2&&(σ.minus [d]).clean [d2].contains&&!Nat.beq pz d&&!Nat.beq t d)with
          |false=>rw[ah]at h;cases h
          |true=>
           rw[ah]at h;simp only[Bool.and_eq_true,Bool.not_eq_true']at ah;obtain⟨⟨⟨⟨⟨⟨bk,bK⟩,cq⟩,en⟩,fK⟩,hj⟩,jU⟩:=ah;have:=Nat.eq_of_beq_eq_true bk;subst this
           have:=Nat.eq_of_beq_eq_true bK;subst this
           have:=Nat.eq_of_beq_eq_true cq;subst this
           cases h;simp only[Prod.mk.injEq,List.cons.injEq,cE.hU.injEq,and_true,true_and]at he;subst he;exact⟨axL an (avz Z) af (avz u) fq eZ rfl U qY en fK (Nat.ne_of_beq_eq_false hj) (Nat.ne_of_beq_eq_false jU),by simp only[all_cons,all_nil,en];rfl⟩
         ·cases h
        ·cases h
       ·cases h
      ·cases h
     ·cases h
    ·cases h
   ·cases h
  ·cases h
 all_goals (simp only[KG]at h;cases h)
def XK{bp fk bytes:Nat}(d2:Nat){xs:List (List W)}(eZ:kO P bp fk 1 bytes)(U:(xs.length+1)*bytes≤140737488355328)(qY:xs.length+1≤maxLen):Hint P:=
 .gs true ([],[(0,.hU 0 xs 0)]) (KG bp fk d2) λ_ _ _ _ _ _ _ h he=>agv eZ U qY h he
def Jt{α:Type}(bp fH fk:Nat)(k:IntKind)(n:Int)(z:Value)(l:List (Int×α))(enc:α→W)(sk:α)(es:ia)(clock:Nat)(op:Op)(env:au)(σ:ag):Option (dw×di):=match op with
 |.mapEntry T x y=>(match env.dx x with
  |some (.dm d)=>(match env.dx y with
   |some (.int er jj)=>(match σ.get d with
    |some (.hM hA c K E bL)=>bif Nat.beq T bp&&Nat.beq K fH&&Nat.beq E fk then some (.e [d] [] (.c5 [.fP,.int .i64 (oh k n es clock:Int)]) (σ.set d (.hM (lF k n z es clock) (tr k n es clock) K E (bM k enc (bH l n ((az l n).getD sk))))),
      ([.c7 bL,.int er jj],[(0,.hM hA c 0 0 [])]))else none
    |_=>none)
   |_=>none)
  |_=>none)
 |_=>none
def agw{α:Type}{bp fH fk:Nat}{k:IntKind}{n:Int}{z:Value}{l:List (Int×α)}{enc:α→W}{sk:α}{es:ia}{clock:Nat}(aT:k4 P bp fH fk k)(hz:∀w,(zeroValue fk).run P w=.ok z w)(Fm:∀I,bm I (enc sk) z){o:Oper}{N:Nat}{ids:dI}{env:au}{σ:ag}{s:dw}{bc:di}
  (h:Jt bp fH fk k n z l enc sk es clock o.op env σ=some (s,bc)) (he:bc=([.c7 (bM k enc l),.int k n],[(0,.hM es clock 0 0 [])])):gj ⟨P,N,ids⟩ o env σ s:=by
 cases an:o.op<;>rw[an]at h
 case mapEntry T x y=>
  simp only[Jt]at h;split at h
  ·rename_i d u;split at h
   ·rename_i er jj ai;split at h
    ·rename_i hA c K E bL af;cases ah:(Nat.beq T bp&&Nat.beq K fH&&Nat.beq E fk)with
     |false=>rw[ah]at h;cases h
     |true=>
      rw[ah]at h;simp only[Bool.and_eq_true]at ah;obtain⟨⟨bk,bK⟩,cq⟩:=ah;have:=Nat.eq_of_beq_eq_true bk;subst this
      have:=Nat.eq_of_beq_eq_true bK;subst this
      have:=Nat.eq_of_beq_eq_true cq;subst this
      cases h;simp only[Prod.mk.injEq,List.cons.injEq,W.c7.injEq,W.int.injEq,cE.hM.injEq,and_true,true_and]at he;obtain⟨⟨rfl,rfl,rfl⟩,rfl,rfl⟩:=he;exact⟨axI l enc sk an (avz u) (avz ai) af aT hz Fm,rfl⟩
    ·cases h
   ·cases h
  ·cases h
 all_goals (simp only[Jt]at h;cases h)
def Xt{α:Type}{bp fH fk:Nat}{k:IntKind}{z:Value}(n:Int)(l:List (Int×α))(enc:α→W)(sk:α)(es:ia)(clock:Nat)(aT:k4 P bp fH fk k)(hz:∀w,(zeroValue fk).run P w=.ok z w)(Fm:∀I,bm I (enc sk) z):Hint P:=
 .gs true ([.c7 (bM k enc l),.int k n],[(0,.hM es clock 0 0 [])]) (λ_=>Jt bp fH fk k n z l enc sk es clock) λ_ _ _ _ _ _ _ h he=>agw aT hz Fm h he
def Im{α:Type}(k:IntKind)(n:Int)(l:List (Int×α))(enc:α→W)(a:α)(op:Op)(env:au)(σ:ag):Option (dw×di):=match op with
 |.entryStore T x y v=>(match env.dx x with
  |some (.dm d)=>(match env.dx y with
   |some (.int jw b)=>(match env.dx v with
    |some b9=>(match σ.get d with
     |some (.hM es c K E bL)=>some (.e [d] [] .undef (σ.set d (.map K E (bM k enc (bH l n a)))),([.c7 bL,.int jw b,b9],[(0,.hM es c 0 0 [])]))
     |_=>none)
    |_=>none)
   |_=>none)
  |_=>none)
 |_=>none
def agy{α:Type}{k:IntKind}{n:Int}{z:Value}{l:List (Int×α)}{enc:α→W}{a a0:α}{es:ia}{clock:Nat}(bw:az l n=some a0)(ah:(enc a).closed=true){o:Oper}{N:Nat}{ids:dI}{env:au}{σ:ag}{s:dw}{bc:di}
  (h:Im k n l enc a o.op env σ=some (s,bc)) (he:bc=([.c7 (bM k enc l),.int .i64 (oh k n es clock:Int),enc a],[(0,.hM (lF k n z es clock) (tr k n es clock) 0 0 [])])):gj ⟨P,N,ids⟩ o env σ s:=by
 cases an:o.op<;>rw[an]at h
 case entryStore T x y v=>
  simp only[Im]at h;split at h
  ·rename_i d u;split at h
   ·rename_i jw b ai;split at h
    ·rename_i b9 aa;split at h
     ·rename_i hA c K E bL af;cases h;simp only[Prod.mk.injEq,List.cons.injEq,W.c7.injEq,W.int.injEq,cE.hM.injEq,and_true,true_and]at he;obtain⟨⟨rfl,⟨rfl,rfl⟩,rfl⟩,rfl,rfl⟩:=he;exact⟨ayd l enc a an (avz u) (avz ai) (avz aa) ah af bw,rfl⟩
     ·cases h
    ·cases h
   ·cases h
  ·cases h
 all_goals (simp only[Im]at h;cases h)
def kQ{α:Type}{k:IntKind}{a0:α}(n:Int)(z:Value)(l:List (Int×α))(enc:α→W)(a:α)(es:ia)(clock:Nat)(bw:az l n=some a0)(ah:(enc a).closed=true):Hint P:=
 .gs true ([.c7 (bM k enc l),.int .i64 (oh k n es clock:Int),enc a],[(0,.hM (lF k n z es clock) (tr k n es clock) 0 0 [])]) (λ_=>Im k n l enc a) λ_ _ _ _ _ _ _ h he=>agy (z:=z) bw ah h he
def Io(ck:Nat)(a:W)(op:Op)(env:au)(σ:ag):Option (dw×di):=match op with
 |.entry x=>(match env.dx x with
  |some (.ptr vw 0)=>(match σ.get ck with
   |some (.kE es c bL seen)=>bif Nat.beq vw ck then some (.y [ck] a,([.c7 bL],[(0,.kE es c [] seen)]))else none
   |_=>none)
  |_=>none)
 |_=>none
def agz{α:Type}{ck clock i:Nat}{k:IntKind}{es:ia}{seen:pE}{e:MapEntry}{n:Int}{v:α}{l:List (Int×α)}{enc:α→W}(iG:es[i]?=some e)(aJ:l[i]?=some (n,v)){o:Oper}{N:Nat}{ids:dI}{env:au}{σ:ag}{s:dw}{bc:di}
  (h:Io ck (.c5 [.int k n,enc v]) o.op env σ=some (s,bc)) (he:bc=([.c7 (bM k enc l)],[(0,.kE es clock [] (seen.push e.born))])):gj ⟨P,N,ids⟩ o env σ s:=by
 cases an:o.op<;>rw[an]at h
 case entry x=>
  simp only[Io]at h;split at h
  ·rename_i vw u;split at h
   ·rename_i hA c bL au1 af;cases U:Nat.beq vw ck with
    |false=>rw[U]at h;cases h
    |true=>
     rw[U]at h;have:=Nat.eq_of_beq_eq_true U;subst this;cases h;simp only[Prod.mk.injEq,List.cons.injEq,W.c7.injEq,cE.kE.injEq,and_true,true_and]at he;obtain⟨rfl,rfl,rfl,rfl⟩:=he;exact axc l enc an (avz u) af iG aJ
   ·cases h
  ·cases h
 all_goals (simp only[Io]at h;cases h)
def Fk{α:Type}{es:ia}{i:Nat}{e:MapEntry}{n:Int}{v:α}{l:List (Int×α)}(ck clock:Nat)(k:IntKind)(seen:pE)(enc:α→W)(iG:es[i]?=some e)(aJ:l[i]?=some (n,v)):Hint P:=
 .gs false ([.c7 (bM k enc l)],[(0,.kE es clock [] (seen.push e.born))]) (λ_=>Io ck (.c5 [.int k n,enc v])) λ_ _ _ _ _ _ _ h he=>agz iG aJ h he
end
end
section
variable {env:au}{iA:W→ag→Prop}{σ:ag}
def qc.mono{G:cR}{fn:Func}{D7:W→ag→Prop}{e:Exit}(h:qc G fn iA e env σ)(aF:∀a s,iA a s→D7 a s):qc G fn D7 e env σ:=by
 obtain⟨ek,σ2,av,aI⟩:=h;refine⟨ek,σ2,av,?_⟩;cases e with
 |normal=>obtain⟨cT,x,r,aH,h1,D,aq,aZ⟩:=aI;exact⟨cT,x,r,aH,h1,D,aq,aF _ _ aZ⟩
 |ret=>obtain⟨cT,x,r,aH,h1,D,aq,aZ⟩:=aI;exact⟨cT,x,r,aH,h1,D,aq,aF _ _ aZ⟩
 |_=>exact aI
variable {N:Nat}{P:Program}{dX:List W}{f:FuncId}
def awu{ids:dI}{dG:ag}{o:Oper}{c:Call}{OF:List W}(news:dI)(an:o.op=.call c)(aA:xE env c=some (f,OF))(Z:u4 dG.ids σ OF=some dX)(qu:σ.at dG.ids=some dG)
  (ec:news.all (λd=>!ids.contains d&&(σ.get d).isNone)=true) (dY:(σ.minus dG.ids).clean news.contains=true) (kI:∀r σ2,iA r σ2→r.refs (λd=>!(dG.ids++news).contains d)=false∧σ2.clean (λd=>!(dG.ids++news).contains d)=true) (cp:eT P f dG dX iA) (ah:c0 P f) :
  i2 ⟨P,N,ids⟩ o env.ev σ (dG.ids++news) news (λr aH=>∃σ2,iA r σ2∧aH=σ2++σ.minus dG.ids):=by
 obtain⟨hS,args,k,aV,ps,rfl,bA,aF,rfl⟩:=C6 aA;exact awq (G:=⟨P,N,ids⟩) (σ:=σ) news an bA ah.h cp aF (AP Z) (avU qu).1 ec dY kI
def MF{P:Program}(bY:hI)(ids:dI)(ops:mg)(n:Nat)(lG:List pT)(Z:List (Nat×Hint P))(env:au)(σ:ag):Option (au×ag×List di):=match Bo ids lG env σ with
 |none=>none
 |some (l0,k6)=>uA bY ids ops ⟨false,[],[]⟩ ((List.range n).map λi=>(i,hintOf Z i)) [] l0 k6
def V0{P:Program}(bY:hI)(ids:dI)(ops:mg)(n:Nat)(lG:List pT)(Z:List (Nat×Hint P))(env:au)(σ:ag):Option (FuncId×List W×List di):=match MF bY ids ops n lG Z env σ with
 |none=>none
 |some (aK,dV,oF)=>match ops[n]? with
  |none=>none
  |some o=>match o.guard with
   |some _=>none
   |none=>match o.op with
    |.call c=>(match xE aK c with
     |none=>none
     |some (f,ps)=>match u4 [] dV ps with
      |none=>none
      |some dX=>some (f,dX,oF))
    |_=>none
def V1{P:Program}(bY:hI)(ids:dI)(ops:mg)(n:Nat)(ku:dI)(lG:List pT)(Z eg:List (Nat×Hint P))(env:au)(σ:ag)(b9:W)(ks dB:dI):Option (au×ag×List di):=match MF bY ids ops n lG Z env σ with
 |none=>none
 |some (aK,dV,_)=>match ops[n]? with
  |none=>none
  |some o=>match uA bY ids ops ⟨false,[],[]⟩ (ku.map λi=>(i,hintOf eg i)) [] (aK.put o.dst b9) dV with
   |none=>none
   |some (e2,eu,oF)=>match DT [] dB eu e2 ks with
    |none=>none
    |some dj=>match eu.at dB with
     |none=>none
     |some s3=>some (dj,s3,oF)
def awx{ids:dI}{bY:hI}{Q:Exit→au→ag→Prop}{y:Code}(aU:kJ P bY){id:Nat}{ops:mg}(n:Nat)(ku:dI)(lG:List pT)(Z:List (Nat×Hint P))(cp:eT P f [] dX iA)(ah:c0 P f)
  (aJ:List.range ops.size=List.range n++n::ku) (af:xD N ops=true) (h:V0 bY ids ops n lG Z env σ=some (f,dX,(List.range n).map λi=>(hintOf Z i).exp)) (kI:∀r σ2,iA r σ2→r.refs (λd=>!([]:dI).contains d)=false∧σ2=[])
  (k:∀b9 σ2,iA b9 σ2→∃(eg:List (Nat×Hint P)) (ek:au) (σ3:ag),V1 bY ids ops n ku lG Z eg env σ b9 (s6 ek) σ3.ids=some (ek,σ3,ku.map λi=>(hintOf eg i).exp)∧aP ⟨P,N,ids⟩ y Q ek σ3):aP ⟨P,N,ids⟩ (.seq (.region id ops false) y) Q env σ:=by
 simp only[V0]at h;split at h
 ·cases h
 ·rename_i aK dV oF u;split at h
  ·cases h
  ·rename_i o an;split at h
   ·cases h
   ·rename_i bw;split at h
    ·rename_i c hop;split at h
     ·cases h
     ·rename_i rK ps aA;split at h
      ·cases h
      ·rename_i Eh vL;simp only[Option.some.injEq,Prod.mk.injEq]at h;obtain⟨rfl,rfl,cG⟩:=h;have mV:=u;simp only[MF]at u;split at u
       ·cases u
       ·rename_i l0 k6 hm;refine avF (GQ hm) (A.seq (av5 aU n ku Z aK dV aJ af (by rw[u,cG]) an bw (awu (dG:=[]) [] hop aA vL rfl rfl (awe _) (λr σ2 aF=>?_) cp ah) (av9 _) rfl ?_))
        ·obtain⟨dc,dg⟩:=kI r σ2 aF;exact⟨dc,by rw[dg];rfl⟩
        ·rintro b9 aH ⟨σ2,aF,rfl⟩;obtain⟨dc,dg⟩:=kI b9 σ2 aF;subst dg;obtain⟨eg,ek,σ3,de,ew⟩:=k b9 [] aF;rw[show([]:ag)++dV.minus (ag.ids [])=dV from Pt dV];simp only[V1,mV,an]at de;split at de
         ·cases de
         ·rename_i e2 eu auA j5;split at de
          ·cases de
          ·rename_i dj sS;split at de
           ·cases de
           ·rename_i s3 wZ;simp only[Option.some.injEq,Prod.mk.injEq]at de;obtain⟨rfl,rfl,l5⟩:=de;exact⟨eg,e2,eu,by rw[j5,l5],avF (awt (Ku sS) (avU wZ).1) ew⟩
    ·cases h
noncomputable def Es{α β:Type}(P:α→Prop)(K:α→Option β):Option β:=@dite _ (∃r,(∃a,P a)∧∀a,P a→K a=some r) (Classical.propDecidable _) (λh=>some (Classical.choose h)) (λ_=>none)
variable {α β:Type}{K:α→Option β}{r:β}
def abh{P:α→Prop}(h:Es P K=some r):∀a,P a→K a=some r:=by
 unfold Es at h;split at h
 ·rename_i u;have:=(Classical.choose_spec u).2;rw[Option.some.inj h]at this;exact this
 ·cases h
def ad9{P:α→Prop}(h1:∃a,P a)(h:∀a,P a→K a=some r):Es P K=some r:=by
 unfold Es;have u:∃r,(∃a,P a)∧∀a,P a→K a=some r:=⟨r,h1,h⟩;rw[dif_pos u];obtain⟨a,aA⟩:=h1;have:=(Classical.choose_spec u).2 a aA;rw[h a aA]at this;exact this.symm
end
end
section
set_option linter.all false
open Go List
def Q3{I:bG}{a:W}{v:Value}(aA:bm I a v):∀{xs:List W} {vs:dQ} (i:Nat),ds I xs vs→ds I (xs.set i a) (vs.set i v)
 |[],vs,i,h=>by simp only[ds]at h;subst h;simp[ds]
 |x::r,vs,i,h=>by
  simp only[ds]at h;obtain⟨aR,us,rfl,h1,D⟩:=h;cases i with
  |zero=>simp only[set_cons_zero,ds];exact⟨v,us,rfl,aA,D⟩
  |succ i=>simp only[set_cons_succ,ds];exact⟨aR,_,rfl,h1,Q3 aA i D⟩
section
variable {G:cR}{σ:ag}{o:Oper}{ev:Operand→W}
end
def Sh{cx:fO}{I bq:bG}{w:World}{α:Type}{T sz:Nat}{enc:α→List W}(hle:cV I bq):∀(l:List (List α)) (vs:dQ),ko cx I w (encS T sz enc l) vs→(∀b∈vs.filterMap cb,∀o,bq b o=iK w b o)→ds bq (l.map λr=>[W.bf false (r.map enc)]).flatten vs
 |[],vs,h,_=>by simp only[encS,map_nil,ko]at h;subst h;simp[ds]
 |r::l,vs,h,ef=>by
  simp only[encS,map_cons,ko]at h;obtain⟨aR,us,rfl,h1,_,aq⟩:=h;simp only[map_cons,flatten_cons,cons_append,nil_append,ds];refine⟨aR,us,rfl,l8.bf h1 hle λb U=>ef b (by simp[U]),Sh hle l us aq λb U=>ef b ?_⟩;rw[filterMap_cons];split
  ·exact U
  ·exact mem_cons_of_mem _ U
def axE{G:cR}{env:au}{σ:ag}{α:Type}{be sz T d e n:Nat}(l:List (List α))(enc:α→List W)(af:σ.get d=some (.e9 T e n none))(he:σ.get e=some (.cL (encS be sz enc l))):
  cB G env σ env ((d,.slice T 1 (l.map λr=>[.bf false (r.map enc)]) 0 false)::σ.minus [d,e]):=λcx I β a w h b3=>by
 have jY:d≠e:=λcC=>by subst cC;rw[af]at he;cases he
 have ml:(σ.get d).isSome:=by rw[af];rfl
 have kQ:(σ.get e).isSome:=by rw[he];rfl
 let bq:bG:=λb o=>if b∈dA (β e)then iK w b o else I b o
 have fM:∀b,b∈dA (β e)→∀o,bq b o=iK w b o:=λb U o=>if_pos U;have qA:∀b,¬(b∈dA (β e))→∀o,bq b o=I b o:=λb U o=>if_neg U
 have hle:cV I bq:=λb o v aa=>by
  by_cases U:b∈dA (β e)
  ·rw[fM b U];exact h.LH b o v aa
  ·rw[qA b U];exact aa
 have oW:∀b,b∈dA (β e)→Place cx b:=λb U=>(h.GS he U).2
 have sub:∀x o,ag.get ((d,.slice T 1 (l.map λr=>[.bf false (r.map enc)]) 0 false)::σ.minus [d,e]) x=some o→(x=d∧o=.slice T 1 (l.map λr=>[.bf false (r.map enc)]) 0 false)∨(x≠d∧x≠e∧σ.get x=some o):=λx o u=>by
  rw[avA,avK]at u;split at u
  ·rename_i cC;exact .inl ⟨cC.symm,(Option.some.inj u).symm⟩
  ·rename_i hp;split at u
   ·cases u
   ·rename_i hh;simp only[mem_cons,not_mem_nil,or_false,not_or]at hh;exact .inr ⟨hh.1,hh.2,u⟩
 have Ei:∀x,(ag.get ((d,cE.slice T 1 (l.map λr=>[.bf false (r.map enc)]) 0 false)::σ.minus [d,e]) x).isSome→(σ.get x).isSome:=λx u=>by
  obtain⟨o,u⟩:=Option.isSome_iff_exists.1 u;rcases sub x o u with⟨rfl,_⟩|⟨_,_,u⟩
  ·exact ml
  ·rw[u];rfl
 refine⟨bq,β,{h with good:=λb o v aa=>?_,iB:=λb v aa=>?_,kg:=h.kg.trans hle,jX:=λb U aX o=>?_,c4:=λx o u=>?_,ee:=λx y u ai=>h.ee x y (Ei x u) (Ei y ai)},b3.mono hle (h5.refl β)⟩
 ·by_cases U:b∈dA (β e)
  ·rw[fM b U]at aa;exact C2 b o v aa
  ·rw[qA b U]at aa;exact h.good b o v aa
 ·by_cases U:b∈dA (β e)
  ·rw[fM b U]at aa;exact CQ b v aa
  ·rw[qA b U]at aa;exact h.iB b v aa
 ·have:¬(b∈dA (β e)):=λic=>by
   rcases oW b ic with q|q
   ·omega
   ·exact aX q
  rw[qA b this];exact h.jX b U aX o
 ·rcases sub x o u with⟨rfl,rfl⟩|⟨hp,hh,u⟩
  ·by_cases iI:β x=.nilFunc
   ·simp only[bb];exact .inl iI
   obtain⟨b,aV,arr,Z,ak,ax,aO,aL,bg,bI,b7,cD,dz,dT,fG,tq⟩:=GI h af he iI;have Ad:l.length=n:=by simpa [encS]using tq
   have wY:¬b∈dA (β e):=h.ee x e ml kQ jY b (kL (by rw[ak];rfl));simp only[bb];refine .inr (.inr ⟨b,aV,arr,by rw[ak];simp[Ad],by simp[Ad];exact ax,aO,aL,by simpa using bg,?_,λe sO=>?_,Nat.zero_le _,(λh=>by cases h),(λo _=>by rw[qA b wY];exact dz o),dT⟩)
   ·have:=Sh hle l Z.toList fG λb U=>fM b (by rw[bI,pW];exact U);rw[←show arr.toList.take n=Z.toList from cD]at this;simpa [Ad]using this
   ·obtain⟨r,_,rfl⟩:=List.mem_map.1 sO;rfl
  ·exact(h.c4 x o u).Vy hle λb U=>qA b λq=>h.ee x e (by rw[u];rfl) kQ hh b U q
section
variable {P:Program}
end
def cz.swap{G:cR}{cx:fO}{I:bG}{β:Nat→Value}{σ σ2:ag}{w:World}(h:cz G cx I β σ w){d:Nat}{o gP:cE}(af:σ.get d=some o)(q0:σ2.get d=some gP)(bw:∀x,x≠d→σ2.get x=σ.get x)(an:bb cx I β w d o→bb cx I β w d gP):cz G cx I β σ2 w:=by
 have fo:∀x,(σ2.get x).isSome→(σ.get x).isSome:=λx u=>by
  by_cases e:x=d
  ·subst e;rw[af];rfl
  ·rw[←bw x e];exact u
 refine{h with c4:=λx hT u=>?_,ee:=λx y u ai=>h.ee x y (fo x u) (fo y ai)};by_cases e:x=d
 ·subst e;rw[q0]at u;cases u;exact an (h.c4 x o af)
 ·rw[bw x e]at u;exact h.c4 x hT u
section
variable {G:cR}{σ:ag}{o:Oper}{ev:Operand→W}
end
section
variable {P:Program}
end
end
section
open Go Go.Proofs.Tryz List
set_option maxRecDepth 100000
set_option linter.all false
structure ez where
 cS:Int
 KD:Bool
instance:Inhabited ez:=⟨ez.mk (0:Int) false⟩
def eD:kC ez:=⟨λx=>[.int .i64 x.cS,.bool x.KD],2,λ_=>rfl,λ_=>rfl,λ_=>rfl⟩
structure dy where
 A:Int
 B:Int
 lg:Int
 lp:Int
 xq:Int
instance:Inhabited dy:=⟨dy.mk (0:Int) (0:Int) (0:Int) (0:Int) (0:Int)⟩
def fe:kC dy:=⟨λx=>[.int .i64 x.A,.int .i64 x.B,.int .i64 x.lg,.int .i64 x.lp,.int .i64 x.xq],5,λ_=>rfl,λ_=>rfl,λ_=>rfl⟩
structure bz where
 bx:List ez
 Links:List dy
instance:Inhabited bz:=⟨bz.mk [] []⟩
structure bO where
 br:Int
 bh:Int
instance:Inhabited bO:=⟨bO.mk (0:Int) (0:Int)⟩
def eY:kC bO:=⟨λx=>[.int .i64 x.br,.int .i64 x.bh],2,λ_=>rfl,λ_=>rfl,λ_=>rfl⟩
def p8(a b:bO):Bool:=decide (a.br=b.br)&&(decide (a.bh=b.bh)&&true)
structure bQ where
 Hop:bO
 dn:Int
instance:Inhabited bQ:=⟨bQ.mk (bO.mk (0:Int) (0:Int)) (0:Int)⟩
def ey:kC bQ:=⟨λx=>[.int .i64 x.Hop.br,.int .i64 x.Hop.bh,.int .i64 x.dn],3,λ_=>rfl,λ_=>rfl,λ_=>rfl⟩
structure dL where
 L:List Int
 At:Int
instance:Inhabited dL:=⟨dL.mk [] (0:Int)⟩
structure g2 where
 h9:Int
 Links:List bO
instance:Inhabited g2:=⟨g2.mk (0:Int) []⟩
structure UZ where
 br:Int
 bh:Int
 ar3:Int
instance:Inhabited UZ:=⟨UZ.mk (0:Int) (0:Int) (0:Int)⟩
structure eP where
 fV:Int
 kF:Int
instance:Inhabited eP:=⟨eP.mk (0:Int) (0:Int)⟩
def eS:kC eP:=⟨λx=>[.int .i64 x.fV,.int .i64 x.kF],2,λ_=>rfl,λ_=>rfl,λ_=>rfl⟩
structure cu where
 bx:List Int
 Value:Int
instance:Inhabited cu:=⟨cu.mk [] (0:Int)⟩
def cQ:kC cu:=⟨λx=>[.bf false (ar aB x.bx),.int .i64 x.Value],2,λ_=>rfl,λ_=>rfl,λ_=>rfl⟩
structure SP where
 h9:Int
 asa:List Int
 ar9:Int
instance:Inhabited SP:=⟨SP.mk (0:Int) [] (0:Int)⟩
structure sA where
 mZ:List (Int×List eP)
 w9:List (Int×List eP)
instance:Inhabited sA:=⟨sA.mk [] []⟩
structure gQ where
 fk:Int
 KV:Int
 rB:Int
instance:Inhabited gQ:=⟨gQ.mk (0:Int) (0:Int) (0:Int)⟩
def JS:kC gQ:=⟨λx=>[.int .i64 x.fk,.int .i64 x.KV,.int .i64 x.rB],3,λ_=>rfl,λ_=>rfl,λ_=>rfl⟩
def Ys:fl:=⟨1,false,some [zI0],.int .i64⟩
def apu:fA prog 2 Ys:=⟨O2,λzs h=>by cases h;exact aro,underlying2⟩
def Yt:fl:=⟨1,false,some [zI0],.int .i64⟩
def apC:fA prog 3 Yt:=⟨om,λzs h=>by cases h;exact Zn,underlying3⟩
def Yu:fl:=⟨1,false,some [.bool false],.bool⟩
def apJ:fA prog 4 Yu:=⟨GG,λzs h=>by cases h;exact Zo,underlying4⟩
def Yv:fl:=⟨1,false,some [.int .u8 0],.int .u8⟩
def apK:fA prog 5 Yv:=⟨aqc,λzs h=>by cases h;exact arC,underlying5⟩
def Yw:fl:=⟨1,false,some [.int .u8 0],.int .u8⟩
def apL:fA prog 6 Yw:=⟨O3,λzs h=>by cases h;exact arD,underlying6⟩
def Yx:fl:=⟨4,true,some [zI0,zI0,.bool false,.int .u8 0],.struct [zI0,zI0,.bool false,.int .u8 0] [(0,1),(1,1),(2,1),(3,1)] [false,false,false,false]⟩
def apO:fA prog 7 Yx:=⟨aqf,λzs h=>by cases h;exact arF,n3 ao4 ⟨ae6,ae7,ae8,ae9,trivial⟩ ⟨afa,afb,afc,afd,trivial⟩⟩
def Yy:fl:=⟨4,true,some [zI0,zI0,.bool false,.int .u8 0],.struct [zI0,zI0,.bool false,.int .u8 0] [(0,1),(1,1),(2,1),(3,1)] [false,false,false,false]⟩
def apP:fA prog 8 Yy:=⟨aqg,λzs h=>by cases h;exact arG,n3 ao5 ⟨afe,aeO,aeP,aeQ,trivial⟩ ⟨aeR,aeS,aeT,aeU,trivial⟩⟩
def Yz:fl:=⟨1,false,some [.string ⟨#[]⟩],.str⟩
def apS:fA prog 9 Yz:=⟨O4,λzs h=>by cases h;exact arH,underlying9⟩
def V2:fl:=⟨1,false,some [.string ⟨#[]⟩],.str⟩
def apj:fA prog 10 V2:=⟨apV,λzs h=>by cases h;exact arc,underlying10⟩
def V3:fl:=⟨1,false,some [.string ⟨#[]⟩],.str⟩
def apk:fA prog 11 V3:=⟨apW,λzs h=>by cases h;exact ard,underlying11⟩
def V4:fl:=⟨1,false,some [.int .u64 0],.int .u64⟩
def apl:fA prog 12 V4:=⟨Mp,λzs h=>by cases h;exact are,underlying12⟩
def V5:fl:=⟨2,true,some [.string ⟨#[]⟩,.int .u64 0],.struct [.string ⟨#[]⟩,.int .u64 0] [(0,1),(1,1)] [false,false]⟩
def apm:fA prog 13 V5:=⟨apX,λzs h=>by cases h;exact arf,n3 ahQ ⟨adm,adn,trivial⟩ ⟨ado,adp,trivial⟩⟩
def V6:fl:=⟨2,true,some [.string ⟨#[]⟩,.int .u64 0],.struct [.string ⟨#[]⟩,.int .u64 0] [(0,1),(1,1)] [false,false]⟩
def apn:fA prog 14 V6:=⟨apY,λzs h=>by cases h;exact arh,n3 ahR ⟨adq,adr,trivial⟩ ⟨ads,adt,trivial⟩⟩
def V7:fl:=⟨1,false,some [.pointer none],.oH⟩
def apo:fA prog 15 V7:=⟨apZ,λzs h=>by cases h;exact ari,trivial⟩
def V8:fl:=⟨1,false,some [.pointer none],.oH⟩
def apq:fA prog 16 V8:=⟨ap0,λzs h=>by cases h;exact arj,trivial⟩
def V9:fl:=⟨1,false,some [.pointer none],.oH⟩
def apr:fA prog 17 V9:=⟨Mq,λzs h=>by cases h;exact ark,trivial⟩
def VN:fl:=⟨1,true,some [.pointer none],.struct [.pointer none] [(0,1)] [false]⟩
def aps:fA prog 18 VN:=⟨ap1,λzs h=>by cases h;exact arl,n3 ahS ⟨adu,trivial⟩ ⟨adv,trivial⟩⟩
def VO:fl:=⟨1,true,some [.pointer none],.struct [.pointer none] [(0,1)] [false]⟩
def apt:fA prog 19 VO:=⟨ap2,λzs h=>by cases h;exact arn,n3 ahT ⟨adw,trivial⟩ ⟨adx,trivial⟩⟩
def VP:fl:=⟨1,false,some [.int .i32 0],.int .i32⟩
def apv:fA prog 21 VP:=⟨ap3,λzs h=>by cases h;exact arp,underlying21⟩
def VQ:fl:=⟨1,false,some [zS0],.slice 3 1 8 [zI0]⟩
def apw:fA prog 22 VQ:=⟨Bz,λzs h=>by cases h;exact arq,⟨aoU,HD,UO⟩⟩
def VR:fl:=⟨1,false,some [.pointer none],.oH⟩
def apx:fA prog 23 VR:=⟨ap4,λzs h=>by cases h;exact ars,trivial⟩
def VS:fl:=⟨1,false,some [zS0],.slice 31 2 16 [zI0,.bool false]⟩
def apy:fA prog 25 VS:=⟨Mr,λzs h=>by cases h;exact art,⟨aoV,ahU,ahV⟩⟩
def VT:fl:=⟨1,false,some [zS0],.slice 62 5 40 [zI0,zI0,zI0,zI0,zI0]⟩
def apz:fA prog 26 VT:=⟨MG,λzs h=>by cases h;exact aru,⟨aoW,ahW,ahX⟩⟩
def VU:fl:=⟨2,true,some [zS0,zS0],.struct [zS0,zS0] [(0,1),(1,1)] [false,false]⟩
def apA:fA prog 27 VU:=⟨ap5,λzs h=>by cases h;exact arv,n3 aho ⟨ady,adz,trivial⟩ ⟨adA,adB,trivial⟩⟩
def VV:fl:=⟨2,true,some [zS0,zS0],.struct [zS0,zS0] [(0,1),(1,1)] [false,false]⟩
def apB:fA prog 28 VV:=⟨ap6,λzs h=>by cases h;exact arw,n3 ahp ⟨adC,adD,trivial⟩ ⟨adE,ac4,trivial⟩⟩
def VW:fl:=⟨2,true,some [zI0,.bool false],.struct [zI0,.bool false] [(0,1),(1,1)] [false,false]⟩
def apD:fA prog 30 VW:=⟨ap7,λzs h=>by cases h;exact arx,n3 ahq ⟨ac5,ac6,trivial⟩ ⟨ac7,ac8,trivial⟩⟩
def Wl:fl:=⟨2,true,some [zI0,.bool false],.struct [zI0,.bool false] [(0,1),(1,1)] [false,false]⟩
def apE:fA prog 31 Wl:=⟨ap8,λzs h=>by cases h;exact Vr,n3 ahr ⟨ac9,ada,trivial⟩ ⟨adb,ade,trivial⟩⟩
def Wm:fl:=⟨1,false,some [zS0],.slice 84 2 16 [zI0,zI0]⟩
def apF:fA prog 34 Wm:=⟨MH,λzs h=>by cases h;exact ary,⟨aoX,UP,ahs⟩⟩
def Wn:fl:=⟨2,true,some [zI0,zS0],.struct [zI0,zS0] [(0,1),(1,1)] [false,false]⟩
def apG:fA prog 35 Wn:=⟨ap9,λzs h=>by cases h;exact arz,n3 aht ⟨adf,aeo,trivial⟩ ⟨aep,aeq,trivial⟩⟩
def Wo:fl:=⟨2,true,some [zI0,zS0],.struct [zI0,zS0] [(0,1),(1,1)] [false,false]⟩
def apH:fA prog 36 Wo:=⟨aqa,λzs h=>by cases h;exact arA,n3 ahu ⟨aer,aes,trivial⟩ ⟨aet,aeu,trivial⟩⟩
def Wp:fl:=⟨1,false,some [zI0],.int .i64⟩
def apI:fA prog 37 Wp:=⟨aqb,λzs h=>by cases h;exact arB,underlying37⟩
def Wq:fl:=⟨5,true,some [zI0,zI0,zI0,zI0,zI0],.struct [zI0,zI0,zI0,zI0,zI0] [(0,1),(1,1),(2,1),(3,1),(4,1)] [false,false,false,false,false]⟩
def apM:fA prog 62 Wq:=⟨aqd,λzs h=>by cases h;exact Vs,n3 ahv ⟨aev,aew,aex,aey,aez,trivial⟩ ⟨aeA,aeB,aeC,aeD,aeE,trivial⟩⟩
def Wr:fl:=⟨1,false,some [.nilFunc],.oH⟩
def apN:fA prog 63 Wr:=⟨aqe,λzs h=>by cases h;exact arE,trivial⟩
def Ws:fl:=⟨2,true,some [zI0,zI0],.struct [zI0,zI0] [(0,1),(1,1)] [false,false]⟩
def apQ:fA prog 84 Ws:=⟨Vn,λzs h=>by cases h;exact Vt,n3 ahw ⟨aeF,aeG,trivial⟩ ⟨aeH,aeI,trivial⟩⟩
def Wt:fl:=⟨1,false,some [zS0],.slice 120 2 32 [zS0,zI0]⟩
def apR:fA prog 85 Wt:=⟨aqh,λzs h=>by cases h;exact Vu,⟨aoY,aiX,aiY⟩⟩
def Wu:fl:=⟨1,false,some [zS0],.slice 85 1 24 [zS0]⟩
def apT:fA prog 98 Wu:=⟨aqi,λzs h=>by cases h;exact arI,⟨aoZ,ai0,ai1⟩⟩
def U0:fl:=⟨2,true,some [zS0,zI0],.struct [zS0,zI0] [(0,1),(1,1)] [false,false]⟩
def aio:fA prog 103 U0:=⟨ai2,λzs h=>by cases h;exact aia,n3 aeV ⟨abO,abP,trivial⟩ ⟨abQ,abR,trivial⟩⟩
def U1:fl:=⟨1,false,some [zS0],.slice 106 1 24 [zS0]⟩
def aip:fA prog 105 U1:=⟨ai3,λzs h=>by cases h;exact aib,⟨y1,To,Tp⟩⟩
def U2:fl:=⟨1,false,some [zS0],.slice 4 1 1 [.bool false]⟩
def aiq:fA prog 106 U2:=⟨G9,λzs h=>by cases h;exact UI,⟨ai4,Tq,Tr⟩⟩
def U3:fl:=⟨1,false,some [zS0],.slice 175 3 24 [zI0,zI0,zI0]⟩
def air:fA prog 111 U3:=⟨UQ,λzs h=>by cases h;exact aic,⟨ai5,aeW,afX⟩⟩
def U4:fl:=⟨2,true,some [zS0,zI0],.struct [zS0,zI0] [(0,1),(1,1)] [false,false]⟩
def ais:fA prog 120 U4:=⟨ai6,λzs h=>by cases h;exact UJ,n3 afY ⟨abS,abT,trivial⟩ ⟨abU,abV,trivial⟩⟩
def U5:fl:=⟨1,false,some [.map none],.map 3 3 .i64⟩
def ait:fA prog 144 U5:=⟨DM,λzs h=>by cases h;exact UK,o4⟩
def U6:fl:=⟨1,false,some [.map none],.oH⟩
def aiu:fA prog 152 U6:=⟨ai7,λzs h=>by cases h;exact aid,trivial⟩
def Ug:fl:=⟨1,false,some [.nilFunc],.oH⟩
def aiv:fA prog 156 Ug:=⟨ai8,λzs h=>by cases h;exact aie,trivial⟩
def Uh:fl:=⟨1,false,some [.nilFunc],.oH⟩
def aiw:fA prog 158 Uh:=⟨ai9,λzs h=>by cases h;exact aif,trivial⟩
def Ui:fl:=⟨1,false,some [.pointer none],.oH⟩
def ajS:fA prog 161 Ui:=⟨aja,λzs h=>by cases h;exact aih,trivial⟩
def Uj:fl:=⟨1,false,some [zS0],.slice 144 1 8 [.map none]⟩
def ajT:fA prog 162 Uj:=⟨UR,λzs h=>by cases h;exact aii,⟨DN,Ts,afZ⟩⟩
def Uk:fl:=⟨1,false,some [zS0],.slice 166 1 8 [.map none]⟩
def ajU:fA prog 163 Uk:=⟨US,λzs h=>by cases h;exact aij,⟨UT,Tt,af0⟩⟩
def Ul:fl:=⟨3,true,some [zS0,zS0,zS0],.struct [zS0,zS0,zS0] [(0,1),(1,1),(2,1)] [false,false,false]⟩
def ajV:fA prog 165 Ul:=⟨ajb,λzs h=>by cases h;exact aik,n3 af1 ⟨abW,abX,abY,trivial⟩ ⟨abZ,ab0,ab1,trivial⟩⟩
def Um:fl:=⟨1,false,some [.map none],.map 3 169 .i64⟩
def ajW:fA prog 166 Um:=⟨UU,λzs h=>by cases h;exact UL,GX⟩
def Un:fl:=⟨2,true,some [zI0,zI0],.struct [zI0,zI0] [(0,1),(1,1)] [false,false]⟩
def ajX:fA prog 169 Un:=⟨ajc,λzs h=>by cases h;exact ail,n3 af2 ⟨ab2,ab3,trivial⟩ ⟨ab4,ab5,trivial⟩⟩
def Uo:fl:=⟨1,false,some [.nilFunc],.oH⟩
def ajY:fA prog 172 Uo:=⟨ajd,λzs h=>by cases h;exact ahy,trivial⟩
def Up:fl:=⟨3,true,some [zI0,zI0,zI0],.struct [zI0,zI0,zI0] [(0,2),(2,1)] [true,false]⟩
def ajZ:fA prog 175 Up:=⟨aje,λzs h=>by cases h;exact UM,n3 af3 ⟨ab6,ab7,trivial⟩ ⟨ab8,ab9,trivial⟩⟩
def Uq:fl:=⟨1,false,some [.nilFunc],.oH⟩
def aj0:fA prog 177 Uq:=⟨ajf,λzs h=>by cases h;exact ahz,trivial⟩
def Ur:fl:=⟨1,false,some [.int .u64 0],.int .u64⟩
def aj1:fA prog 178 Ur:=⟨ajg,λzs h=>by cases h;exact ahA,underlying178⟩
def Us:fl:=⟨3,true,some [zI0,zI0,zI0],.oH⟩
def aj2:fA prog 179 Us:=⟨ajh,λzs h=>by cases h;exact A9,trivial⟩
def Ut:fl:=⟨1,false,some [zS0],.slice 179 3 24 [zI0,zI0,zI0]⟩
def aj3:fA prog 180 Ut:=⟨aji,λzs h=>by cases h;exact ahB,⟨ajj,af4,af5⟩⟩
def Uu:fl:=⟨1,false,some [.nilFunc],.oH⟩
def aj4:fA prog 182 Uu:=⟨ajk,λzs h=>by cases h;exact ahC,trivial⟩
def Uv:fl:=⟨1,false,some [.nilFunc],.oH⟩
def aj5:fA prog 185 Uv:=⟨ajl,λzs h=>by cases h;exact ahD,trivial⟩
def Uw:fl:=⟨1,false,some [.nilFunc],.oH⟩
def aj6:fA prog 187 Uw:=⟨aix,λzs h=>by cases h;exact ahE,trivial⟩
def Ux:fl:=⟨1,false,some [.nilFunc],.oH⟩
def aj7:fA prog 188 Ux:=⟨aiy,λzs h=>by cases h;exact ahF,trivial⟩
def Uy:fl:=⟨1,false,some [.nilFunc],.oH⟩
def aj8:fA prog 190 Uy:=⟨aiz,λzs h=>by cases h;exact ahG,trivial⟩
def Uz:fl:=⟨1,false,some [.map none],.map 3 4 .i64⟩
def aj9:fA prog 191 Uz:=⟨aiA,λzs h=>by cases h;exact ahH,Tu⟩
def UA:fl:=⟨1,false,some [.map none],.map 3 234 .i64⟩
def aka:fA prog 208 UA:=⟨Md,λzs h=>by cases h;exact ahI,p7⟩
def UB:fl:=⟨2,true,some [.map none,.map none],.struct [.map none,.map none] [(0,1),(1,1)] [false,false]⟩
def akb:fA prog 210 UB:=⟨aiB,λzs h=>by cases h;exact ahJ,n3 af6 ⟨acc,abx,trivial⟩ ⟨aby,abz,trivial⟩⟩
def UC:fl:=⟨1,false,some [.nilFunc],.oH⟩
def akc:fA prog 216 UC:=⟨aiC,λzs h=>by cases h;exact ahK,trivial⟩
def UD:fl:=⟨1,false,some [zS0],.slice 237 2 16 [zI0,zI0]⟩
def akd:fA prog 234 UD:=⟨aiD,λzs h=>by cases h;exact ahL,⟨aiE,af7,af8⟩⟩
def UE:fl:=⟨2,true,some [zI0,zI0],.struct [zI0,zI0] [(0,1),(1,1)] [false,false]⟩
def ake:fA prog 237 UE:=⟨aiF,λzs h=>by cases h;exact UN,n3 af9 ⟨abA,abB,trivial⟩ ⟨abC,abD,trivial⟩⟩
def UF:fl:=⟨1,false,some [.nilFunc],.oH⟩
def akf:fA prog 239 UF:=⟨aiG,λzs h=>by cases h;exact ahM,trivial⟩
def T6:fl:=⟨1,false,some [zI0],.int .i64⟩
def akg:fA prog 245 T6:=⟨aiH,λzs h=>by cases h;exact ahN,underlying245⟩
def T7:fl:=⟨1,false,some [.int .u32 0],.int .u32⟩
def ajv:fA prog 252 T7:=⟨aiI,λzs h=>by cases h;exact ahO,underlying252⟩
def T8:fl:=⟨1,false,some [.int .u64 0],.int .u64⟩
def ajw:fA prog 254 T8:=⟨aiJ,λzs h=>by cases h;exact ahP,underlying254⟩
def bY:hI:=[(2,Ys),(3,Yt),(4,Yu),(5,Yv),(6,Yw),(7,Yx),(8,Yy),(9,Yz),(10,V2),(11,V3),(12,V4),(13,V5),(14,V6),(15,V7),(16,V8),(17,V9),(18,VN),(19,VO),(21,VP),(22,VQ),(23,VR),(25,VS),(26,VT),(27,VU),(28,VV),(30,VW),(31,Wl),(34,Wm),(35,Wn),(36,Wo),(37,Wp),(62,Wq),(63,Wr),(84,Ws),(85,Wt),(98,Wu),(103,U0),(105,U1),(106,U2),(111,U3),(120,U4),(144,U5),(152,U6),(156,Ug),(158,Uh),(161,Ui),(162,Uj),(163,Uk),(165,Ul),(166,Um),(169,Un),(172,Uo),(175,Up),(177,Uq),(178,Ur),(179,Us),(180,Ut),(182,Uu),(185,Uv),(187,Uw),(188,Ux),(190,Uy),(191,Uz),(208,UA),(210,UB),(216,UC),(234,UD),(237,UE),(239,UF),(245,T6),(252,T7),(254,T8)]
def bN:kJ prog bY:=⟨anb,⟨apu,apC,apJ,apK,apL,apO,apP,apS,apj,apk,apl,apm,apn,apo,apq,apr,aps,apt,apv,apw,apx,apy,apz,apA,apB,apD,apE,apF,apG,apH,apI,apM,apN,apQ,apR,apT,aio,aip,aiq,air,ais,ait,aiu,aiv,aiw,ajS,ajT,ajU,ajV,ajW,ajX,ajY,ajZ,aj0,aj1,aj2,aj3,aj4,aj5,aj6,aj7,aj8,aj9,aka,akb,akc,akd,ake,akf,akg,ajv,ajw,trivial⟩⟩
def ale:c0 prog 12:=⟨call12⟩
def alf:c0 prog 13:=⟨call13⟩
def r9:c0 prog 14:=⟨call14⟩
def alg:c0 prog 15:=⟨call15⟩
def Wv:c0 prog 16:=⟨call16⟩
def Ms:c0 prog 18:=⟨call18⟩
def alh:c0 prog 19:=⟨call19⟩
def ali:c0 prog 20:=⟨call20⟩
def Bp:c0 prog 28:=⟨call28⟩
def alj:c0 prog 46:=⟨call46⟩
def alk:c0 prog 47:=⟨call47⟩
def Mt:c0 prog 48:=⟨call48⟩
def alm:c0 prog 49:=⟨call49⟩
def aln:c0 prog 50:=⟨call50⟩
def alo:c0 prog 54:=⟨call54⟩
def alp:c0 prog 56:=⟨call56⟩
def alq:c0 prog 58:=⟨call58⟩
def Et:c0 prog 59:=⟨call59⟩
def alr:c0 prog 60:=⟨call60⟩
def als:c0 prog 61:=⟨call61⟩
def HR:c0 prog 62:=⟨call62⟩
def alu:c0 prog 63:=⟨call63⟩
def Mu:c0 prog 64:=⟨call64⟩
def Ww:c0 prog 69:=⟨call69⟩
def Wx:c0 prog 70:=⟨call70⟩
def HS:c0 prog 71:=⟨call71⟩
def Wy:c0 prog 72:=⟨call72⟩
def Mv:c0 prog 73:=⟨call73⟩
def HT:c0 prog 74:=⟨call74⟩
def alv:c0 prog 75:=⟨call75⟩
def BB:c0 prog 76:=⟨call76⟩
def Wz:c0 prog 77:=⟨call77⟩
def Mw:c0 prog 79:=⟨call79⟩
def ajx:c0 prog 102:=⟨call102⟩
def ajy:c0 prog 103:=⟨call103⟩
def ajz:c0 prog 104:=⟨call104⟩
def ajA:c0 prog 105:=⟨call105⟩
def s7:c0 prog 106:=⟨call106⟩
def ajB:c0 prog 107:=⟨call107⟩
def ajC:c0 prog 108:=⟨call108⟩
def ajD:c0 prog 109:=⟨call109⟩
def ajE:c0 prog 110:=⟨call110⟩
def ajF:c0 prog 112:=⟨call112⟩
def ajG:c0 prog 113:=⟨call113⟩
def ajH:c0 prog 114:=⟨call114⟩
def y3:c0 prog 119:=⟨call119⟩
def xF:c0 prog 120:=⟨call120⟩
def T9:c0 prog 121:=⟨call121⟩
def HG:c0 prog 122:=⟨call122⟩
def ajI:c0 prog 123:=⟨call123⟩
def Ua:c0 prog 124:=⟨call124⟩
def Ec:c0 prog 126:=⟨call126⟩
def ajJ:c0 prog 127:=⟨call127⟩
def LZ:c0 prog 129:=⟨call129⟩
def ajK:c0 prog 130:=⟨call130⟩
def Ub:c0 prog 131:=⟨call131⟩
def ajL:c0 prog 132:=⟨call132⟩
def ajM:c0 prog 133:=⟨call133⟩
def Bb:c0 prog 134:=⟨call134⟩
def L0:c0 prog 135:=⟨call135⟩
def Uc:c0 prog 136:=⟨call136⟩
def Ud:c0 prog 137:=⟨call137⟩
def L1:c0 prog 138:=⟨call138⟩
def ajN:c0 prog 139:=⟨call139⟩
def ajO:c0 prog 140:=⟨call140⟩
def ajP:c0 prog 141:=⟨call141⟩
def HH:c0 prog 142:=⟨call142⟩
def ajQ:c0 prog 143:=⟨call143⟩
def ajR:c0 prog 144:=⟨call144⟩
def Ue:c0 prog 145:=⟨call145⟩
def ajm:c0 prog 146:=⟨call146⟩
def Bc:c0 prog 147:=⟨call147⟩
def HI:c0 prog 148:=⟨call148⟩
def L2:c0 prog 160:=⟨call160⟩
def Uf:c0 prog 161:=⟨call161⟩
def U7:c0 prog 162:=⟨call162⟩
def ajn:c0 prog 163:=⟨call163⟩
def U8:c0 prog 164:=⟨call164⟩
def ajo:c0 prog 165:=⟨call165⟩
def ajp:c0 prog 166:=⟨call166⟩
def U9:c0 prog 167:=⟨call167⟩
def ajq:c0 prog 168:=⟨call168⟩
def ajr:c0 prog 169:=⟨call169⟩
def ajs:c0 prog 170:=⟨call170⟩
def ajt:c0 prog 171:=⟨call171⟩
def Va:c0 prog 172:=⟨call172⟩
def aju:c0 prog 173:=⟨call173⟩
def akx:c0 prog 174:=⟨call174⟩
def aky:c0 prog 178:=⟨call178⟩
def akz:c0 prog 180:=⟨call180⟩
def akA:c0 prog 181:=⟨call181⟩
def akB:c0 prog 182:=⟨call182⟩
def akC:c0 prog 188:=⟨call188⟩
def Vb:c0 prog 190:=⟨call190⟩
def Hv:c0 prog 191:=⟨call191⟩
def akD:c0 prog 192:=⟨call192⟩
def akE:c0 prog 195:=⟨call195⟩
def akF:c0 prog 196:=⟨call196⟩
def akG:c0 prog 207:=⟨call207⟩
def akH:c0 prog 216:=⟨call216⟩
def akI:c0 prog 233:=⟨call233⟩
def akJ:c0 prog 234:=⟨call234⟩
def L3:c0 prog 257:=⟨call257⟩
def bl{N:Nat}{ids:List Nat}{y:Code}{Q:Exit→au→ag→Prop}{env:au}{σ:ag}{id:Nat}{ops:Array Oper}{fR:Bool}(Z:List (Nat×Hint prog))(ek:au)(σ2:ag)(k:aP ⟨prog,N,ids⟩ y Q ek σ2)
  (h:xW bY N ids ops fR (mq ops fR Z).1 (mq ops fR Z).2 [] Z (s6 ek) σ2.ids env σ=some (ek,σ2,(mq ops fR Z).2.map λi=>(hintOf Z i).exp):=by kernel_rfl):aP ⟨prog,N,ids⟩ (.seq (.region id ops fR) y) Q env σ:=avB bN [] Z ek σ2 h k
def AW{N:Nat}{ids:List Nat}{Q:Exit→au→ag→Prop}{env:au}{σ:ag}{id:Nat}{ops:Array Oper}{fR:Bool}(Z:List (Nat×Hint prog))(ek:au)(σ2:ag)(k:Q .normal ek σ2)
  (h:xW bY N ids ops fR (mq ops fR Z).1 (mq ops fR Z).2 [] Z (s6 ek) σ2.ids env σ=some (ek,σ2,(mq ops fR Z).2.map λi=>(hintOf Z i).exp):=by kernel_rfl):aP ⟨prog,N,ids⟩ (.region id ops fR) Q env σ:=A.R bN [] Z ek σ2 h k
def WA(n:Nat):List Nat→Bool
 |[]=>false
 |k::r=>bif Nat.beq k n then true else WA n r
def oD{α:Type}(ks:List Nat)(jk:List (Nat×α)):List (Nat×α)→List (Nat×α)
 |[]=>jk
 |p::l=>bif WA p.1 ks then oD ks jk l else p::oD ks jk l
section
variable {N:Nat}{ids:List Nat}{y:Code}{Q:Exit→au→ag→Prop}{env:au}{σ:ag}{id:Nat}{ops:Array Oper}{fR:Bool}(Z:List (Nat×Hint prog))(ks:List Nat)(jk:au)(CK:List Nat)(CX:ag)
def et(k:aP ⟨prog,N,ids⟩ y Q (oD ks jk env) (oD CK CX σ))
  (h:xW bY N ids ops fR (mq ops fR Z).1 (mq ops fR Z).2 [] Z (s6 (oD ks jk env)) (ag.ids (oD CK CX σ)) env σ=some (oD ks jk env,oD CK CX σ,(mq ops fR Z).2.map λi=>(hintOf Z i).exp):=by kernel_rfl):aP ⟨prog,N,ids⟩ (.seq (.region id ops fR) y) Q env σ:=avB bN [] Z _ _ h k
def aW(k:aP ⟨prog,N,ids⟩ y Q (oD ks jk env) σ)
  (h:xW bY N ids ops fR (mq ops fR Z).1 (mq ops fR Z).2 [] Z (s6 (oD ks jk env)) σ.ids env σ=some (oD ks jk env,σ,(mq ops fR Z).2.map λi=>(hintOf Z i).exp):=by kernel_rfl):aP ⟨prog,N,ids⟩ (.seq (.region id ops fR) y) Q env σ:=avB bN [] Z _ _ h k
def jl(k:Q .normal (oD ks jk env) (oD CK CX σ))
  (h:xW bY N ids ops fR (mq ops fR Z).1 (mq ops fR Z).2 [] Z (s6 (oD ks jk env)) (ag.ids (oD CK CX σ)) env σ=some (oD ks jk env,oD CK CX σ,(mq ops fR Z).2.map λi=>(hintOf Z i).exp):=by kernel_rfl):aP ⟨prog,N,ids⟩ (.region id ops fR) Q env σ:=A.R bN [] Z _ _ h k
def dF(k:Q .normal (oD ks jk env) σ)
  (h:xW bY N ids ops fR (mq ops fR Z).1 (mq ops fR Z).2 [] Z (s6 (oD ks jk env)) σ.ids env σ=some (oD ks jk env,σ,(mq ops fR Z).2.map λi=>(hintOf Z i).exp):=by kernel_rfl):aP ⟨prog,N,ids⟩ (.region id ops fR) Q env σ:=A.R bN [] Z _ _ h k
end
def cM{N:Nat}{ids:List Nat}{fn:Func}{env:au}{σ σ2:ag}{R:W}(h:MB bY ids [] σ2.ids fn.results.toList env σ=some (R,σ2):=by kernel_rfl):
  qc ⟨prog,N,ids⟩ fn (λa aH=>a=R∧aH=σ2) .ret env σ:=avC bN [] rfl h
variable {G:cR}
def fN{env ek:au}{σ σ2:ag}(h:DU G.ids [] [] (s6 ek) σ2.ids env σ=some (ek,σ2):=by kernel_rfl):cB G env σ ek σ2:=cB.go [] [] h
variable {bn:Type}{r:bn}
def cF{α:Type}{J:α→Option bn}{env:au}{σ:ag}{gr:α→au}{gB:α→ag}(g:α)(bw:J g=some r)(h:DU G.ids [] [] (s6 (gr g)) (gB g).ids env σ=some (gr g,gB g):=by kernel_rfl):
  ∃g,J g=some r∧cB G env σ (gr g) (gB g):=⟨g,bw,cB.go [] [] h⟩
variable {o:Operand}
def bX{p:Bool}{x y:Code}{Q:Exit→au→ag→Prop}{env:au}{σ:ag}(aF:p=true)(k:aP G x Q env σ)(ah:env.dx o=some (.bool p):=by kernel_rfl):aP G (.cond o x y) Q env σ:=avH ah aF k
def bW{p:Bool}{x y:Code}{Q:Exit→au→ag→Prop}{env:au}{σ:ag}(aF:p=false)(k:aP G y Q env σ)(ah:env.dx o=some (.bool p):=by kernel_rfl):aP G (.cond o x y) Q env σ:=avG ah aF k
def jx{env ek:au}{σ σ2:ag}(lG:List pT)(sl:List Nat)(h:DU G.ids lG sl (s6 ek) σ2.ids env σ=some (ek,σ2):=by kernel_rfl):cB G env σ ek σ2:=Rq h
def auQ{p:Bool}{x y:Code}{Q:Exit→au→ag→Prop}{env:au}{σ:ag}{s t:Option bn}(hm:(bif p then s else t)=some r)(gy:p=true→s=some r→aP G x Q env σ)(cn:p=false→t=some r→aP G y Q env σ)(ah:env.dx o=some (.bool p):=by kernel_rfl):aP G (.cond o x y) Q env σ:=by
 rcases cg hm with⟨h,hm⟩|⟨h,hm⟩
 ·exact avH ah h (gy h hm)
 ·exact avG ah h (cn h hm)
abbrev W.d(p:Prop)[Decidable p]:W:=.bool (decide p)
abbrev cE.c(T:TypeId)(cs:List W):cE:=.cells T cs
abbrev Y(n:Int):W:=.int .i64 n
abbrev bC{α:Type}(e:kC α)(l:List α):W:=.bf false (ar e l)
abbrev o7(x:ez):List W:=[.int .i64 x.cS,.bool x.KD]
abbrev gy(x:dy):List W:=[.int .i64 x.A,.int .i64 x.B,.int .i64 x.lg,.int .i64 x.lp,.int .i64 x.xq]
abbrev cn(x:bz):List W:=[.bf false (ar eD x.bx),.bf false (ar fe x.Links)]
abbrev mb(x:bO):List W:=[.int .i64 x.br,.int .i64 x.bh]
abbrev xd(x:bQ):List W:=[.int .i64 x.Hop.br,.int .i64 x.Hop.bh,.int .i64 x.dn]
abbrev hO(x:dL):List W:=[.bf false (ar aB x.L),.int .i64 x.At]
abbrev mG(x:g2):List W:=[.int .i64 x.h9,.bf false (ar eY x.Links)]
abbrev yD(x:eP):List W:=[.int .i64 x.fV,.int .i64 x.kF]
abbrev xe(x:cu):List W:=[.bf false (ar aB x.bx),.int .i64 x.Value]
abbrev wu:=List bQ
abbrev wz:=List cu
abbrev x2:=List bO
abbrev yH:=List eP
abbrev zA:=List dy
abbrev AL:=List (List cu)
abbrev AU:=List ez
end
section
set_option linter.all false
open Go List
section
structure x1(A:Type) where
 src:A→Int
 dst:A→Int
 cost:A→Int
section net
variable {A:Type}[DecidableEq A](N:x1 A)
inductive gE(H:List A):Int→Int→Prop
 |refl (v:Int):gE H v v
 |step {aR:Int} (a:A) (aA:a∈H) (h:gE H (N.dst a) aR):gE H (N.src a) aR
def hX(H:List A):Int:=(H.map N.cost).sum
variable {N}
def gE.mono{H K:List A}{v aR:Int}(h:gE N H v aR)(Z:∀a∈H,a∈K):gE N K v aR:=by
 induction h with
 |refl v=>exact .refl v
 |step a aA _ bu=>exact .step a (Z a aA) bu
def gE.trans{H:List A}{v aR t:Int}(h:gE N H v aR)(D:gE N H aR t):gE N H v t:=by
 induction h with
 |refl v=>exact D
 |step a aA _ bu=>exact .step a aA (bu D)
def gE.one{H:List A}{a:A}(aA:a∈H):gE N H (N.src a) (N.dst a):=.step a aA (.refl _)
def acN(v:Int){H:List A}{x t:Int}(h:gE N H x t):gE N (H.filter λa=>!decide (N.src a=v)) x t∨∃e∈H,N.src e=v∧gE N (H.filter λa=>!decide (N.src a=v)) (N.dst e) t:=by
 induction h with
 |refl v=>exact .inl (.refl v)
 |step a aA _ bu=>
  rcases bu with bu|bu
  ·by_cases aa:N.src a=v
   ·exact .inr ⟨a,aA,aa,bu⟩
   ·exact .inl (.step a (List.mem_filter.2 ⟨aA,by simp[aa]⟩) bu)
  ·exact .inr bu
def Po{H:List A}{v t:Int}(h:gE N H v t)(cA:v≠t):∃e∈H,N.src e=v∧gE N (H.filter λa=>!decide (N.src a=v)) (N.dst e) t:=by
 rcases acN v h with h|h
 ·generalize u:v=x at h;cases h with
  |refl _=>exact absurd u cA
  |step a aA h=>
   have:=(List.mem_filter.1 aA).2;simp at this
 ·exact h
def tU(a:A)(H:List A):hX N (a::H)=N.cost a+hX N H:=by simp[hX]
def Z7(H K:List A):hX N (H++K)=hX N H+hX N K:=by
 induction H with
 |nil=>simp[hX]
 |cons a H bu=>rw[cons_append,tU,tU,bu];omega
def O9{H:List A}(h:∀a∈H,0≤N.cost a):0≤hX N H:=by
 induction H with
 |nil=>simp[hX]
 |cons a H bu=>
  rw[tU];have h1:=h a (by simp);have D:=bu λb U=>h b (by simp[U]);omega
def CS{e:A}:∀{H:List A},e∈H→hX N H=N.cost e+hX N (H.erase e)
 |[],h=>by cases h
 |a::H,h=>by
  by_cases aA:a=e
  ·subst aA;rw[erase_cons_head,tU]
  ·rw[erase_cons_tail (by simpa using aA),tU,tU,CS (H:=H) (by
    rcases mem_cons.1 h with h|h
    ·exact absurd h.symm aA
    ·exact h)]
   omega
def Qt(p:A→Bool):∀(H:List A),hX N H=hX N (H.filter p)+hX N (H.filter λa=>!p a)
 |[]=>rfl
 |a::H=>by
  rw[tU,Qt p H];cases aF:p a with
  |true=>rw[filter_cons_of_pos (by simp[aF]),filter_cons_of_neg (by simp[aF]),tU];omega
  |false=>rw[filter_cons_of_neg (by simp[aF]),filter_cons_of_pos (by simp[aF]),tU];omega
def Lj(p:Nat→Bool):∀k:Nat,∃m,m<2 ^ k∧∀i,m.testBit i=(decide (i<k)&&p i)
 |0=>⟨0,by simp,λi=>by simp⟩
 |k+1=>by
  obtain⟨m,h1,D⟩:=Lj p k;refine⟨m ||| (if p k then 2 ^ k else 0),Nat.or_lt_two_pow (Nat.lt_of_lt_of_le h1 (Nat.pow_le_pow_right (by omega) (by omega))) (by split;exact Nat.pow_lt_pow_right (by omega) (by omega);exact Nat.two_pow_pos _),λi=>?_⟩;rw[Nat.testBit_or,D];by_cases hi:i=k
  ·subst hi;cases aF:p i<;>simp
  ·have e:(if p k=true then 2 ^ k else 0).testBit i=false:=by
    split
    ·rw[Nat.testBit_two_pow];simp;omega
    ·simp
   rw[e];by_cases aJ:i<k
   ·have:i<k+1:=by omega
    simp[aJ,this]
   ·have:¬i<k+1:=by omega
    simp[aJ,this]
def aee{S i:Nat}(h:S.testBit i=true):0<S:=by
 rcases Nat.eq_zero_or_pos S with bJ|bJ
 ·subst bJ;simp at h
 ·exact bJ
def Pe{S:Nat}(h:0<S):∃i,S.testBit i=true:=by
 apply Classical.byContradiction;intro aX
 have:S=0:=Nat.eq_of_testBit_eq λi=>by
  cases U:S.testBit i with
  |true=>exact absurd ⟨i,U⟩ aX
  |false=>simp
 omega
def LO{S k i:Nat}(h:S<2 ^ k)(U:S.testBit i=true):i<k:=by
 apply Classical.byContradiction;intro aX;rw[Nat.testBit_lt_two_pow (Nat.lt_of_lt_of_le h (Nat.pow_le_pow_right (by omega) (by omega)))]at U;cases U
def Pp{S k:Nat}(fo:S<2 ^ k)(p:Nat→Bool):∃P R,P &&& R=0∧P ||| R=S∧(∀i,P.testBit i=(S.testBit i&&p i))∧∀i,R.testBit i=(S.testBit i&&!p i):=by
 obtain⟨P,_,h1⟩:=Lj (λi=>S.testBit i&&p i) k;obtain⟨R,_,D⟩:=Lj (λi=>S.testBit i&&!p i) k
 have hk:∀i,(decide (i<k)&&S.testBit i)=S.testBit i:=λi=>by
  cases U:S.testBit i with
  |true=>simp[LO fo U]
  |false=>simp
 have ak:∀i,P.testBit i=(S.testBit i&&p i):=λi=>by rw[h1,←Bool.and_assoc,hk]
 have ax:∀i,R.testBit i=(S.testBit i&&!p i):=λi=>by rw[D,←Bool.and_assoc,hk]
 refine⟨P,R,Nat.eq_of_testBit_eq λi=>?_,Nat.eq_of_testBit_eq λi=>?_,ak,ax⟩
 ·rw[Nat.testBit_and,ak,ax];cases S.testBit i<;>cases p i<;>simp
 ·rw[Nat.testBit_or,ak,ax];cases S.testBit i<;>cases p i<;>simp
def GK{S P R:Nat}(bJ:P &&& R=0)(h:P ||| R=S)(c3:0<R):P<S:=by
 have h1:P≤S:=by rw[←h];exact Nat.left_le_or
 rcases Nat.lt_or_eq_of_le h1 with D|D
 ·exact D
 ·obtain⟨i,hi⟩:=Pe c3;have aq:(P ||| R).testBit i=P.testBit i:=by rw[h,D]
  have aZ:(P &&& R).testBit i=false:=by rw[bJ];simp
  rw[Nat.testBit_or,hi]at aq;rw[Nat.testBit_and,hi]at aZ;simp at aq aZ;rw[aZ]at aq;cases aq
structure K1(N:x1 A)(L:List A)(k:Nat)(ts:Nat→Int)(C:Nat→Int→Int):Prop where
 pos:∀a∈L,0≤N.cost a
 one:∀i,i<k→C (2 ^ i) (ts i)≤0
 hop:∀S,0<S→S<2 ^ k→∀a∈L,C S (N.src a)≤N.cost a+C S (N.dst a)
 part:∀S P R,S<2 ^ k→0<P→0<R→P &&& R=0→P ||| R=S→∀v,C S v≤C P v+C R v
def K1.le{L:List A}{k:Nat}{ts:Nat→Int}{C:Nat→Int→Int}(h:K1 N L k ts C):∀(n:Nat) (H:List A),H.length≤n→(∀a∈H,a∈L)→∀(S:Nat),0<S→S<2 ^ k→∀v,(∀i,S.testBit i=true→gE N H v (ts i))→C S v≤hX N H:=by
 classical
 intro n;induction n with
 |zero=>
  intro H aX jv S;have nn:H=[]:=eq_nil_of_length_eq_zero (by omega);subst nn;induction S using Nat.strongRecOn with
  |_ S As=>
   intro fo uL v ah;obtain⟨i,hi⟩:=Pe fo;have yj:=LO uL hi;have aa:v=ts i:=by
    have:=ah i hi;cases this with
    |refl _=>rfl
    |step a aA _=>cases aA
   obtain⟨P,R,ak,ax,aO,aL⟩:=Pp uL (λj=>decide (j=i))
   have n4:P=2 ^ i:=Nat.eq_of_testBit_eq λj=>by
    rw[aO,Nat.testBit_two_pow];by_cases aY:j=i
    ·subst aY;simp[hi]
    ·have:¬i=j:=λe=>aY e.symm;simp[aY,this]
   rcases Nat.eq_zero_or_pos R with c3|c3
   ·have:S=P:=by rw[←ax,c3];simp
    rw[this,n4,aa];have:=h.one i yj;simpa [hX]using this
   ·have h1:=h.part S P R uL (by rw[n4];exact Nat.two_pow_pos _) c3 ak ax v;have D:=As R (GK (by rw[Nat.and_comm];exact ak) (by rw[Nat.or_comm];exact ax) (by rw[n4];exact Nat.two_pow_pos _)) c3 (by have:R≤S:=by{rw[←ax];exact Nat.right_le_or};omega) v (λj aY=>ah j (by rw[aL]at aY;simp at aY;exact aY.1));have aq:=h.one i yj;rw[←aa,←n4]at aq;omega
 |succ n bu=>
  intro H aX jv S;have Xz:0≤hX N H:=O9 λa aA=>h.pos a (jv a aA);induction S using Nat.strongRecOn with
  |_ S As=>
   intro fo uL v ah;by_cases qu:∃i,S.testBit i=true∧ts i=v
   ·obtain⟨i,hi,aa⟩:=qu;have yj:=LO uL hi;obtain⟨P,R,ak,ax,aO,aL⟩:=Pp uL (λj=>decide (j=i))
    have n4:P=2 ^ i:=Nat.eq_of_testBit_eq λj=>by
     rw[aO,Nat.testBit_two_pow];by_cases aY:j=i
     ·subst aY;simp[hi]
     ·have:¬i=j:=λe=>aY e.symm;simp[aY,this]
    have aq:=h.one i yj;rw[aa,←n4]at aq;rcases Nat.eq_zero_or_pos R with c3|c3
    ·have:S=P:=by rw[←ax,c3];simp
     rw[this];omega
    ·have h1:=h.part S P R uL (by rw[n4];exact Nat.two_pow_pos _) c3 ak ax v;have D:=As R (GK (by rw[Nat.and_comm];exact ak) (by rw[Nat.or_comm];exact ax) (by rw[n4];exact Nat.two_pow_pos _)) c3 (by have:R≤S:=by{rw[←ax];exact Nat.right_le_or};omega) v (λj aY=>ah j (by rw[aL]at aY;simp at aY;exact aY.1));omega
   ·have ys:∀i,S.testBit i=true→v≠ts i:=λi hi e=>qu ⟨i,hi,e.symm⟩;obtain⟨oc,tN⟩:=Pe fo;obtain⟨e,he,Nz,amG⟩:=Po (ah oc tN) (ys oc tN)
    have Xg:∀a∈H.filter (λa=>!decide (N.src a=v)),a∈H.erase e:=λa aA=>by
     obtain⟨h1,D⟩:=List.mem_filter.1 aA;refine(List.mem_erase_of_ne λame=>?_).2 h1;subst ame;simp[Nz]at D
    have anD:=amG.mono Xg;have ob:∀a∈H.erase e,a∈L:=λa aA=>jv a (List.mem_of_mem_erase aA);have eH:(H.erase e).length≤n:=by rw[length_erase_of_mem he];omega
    have atX:=CS (N:=N) he;obtain⟨P,R,ak,ax,aO,aL⟩:=Pp uL (λi=>decide (gE N (H.erase e) (N.dst e) (ts i)));have al8:P.testBit oc=true:=by rw[aO];simp[tN,anD]
    have Iu:=aee al8;rcases Nat.eq_zero_or_pos R with c3|c3
    ·have h1:=bu (H.erase e) eH ob S fo uL (N.dst e) (λi hi=>by
      have bP:=aL i;rw[c3,hi]at bP;simp at bP;exact bP)
     have D:=h.hop S fo uL e (jv e he);rw[Nz]at D;omega
    ·let q:A→Bool:=λa=>decide (gE N (H.erase e) (N.dst e) (N.src a))
     have al7:P<S:=GK ak ax c3;have atw:R<S:=GK (by rw[Nat.and_comm];exact ak) (by rw[Nat.or_comm];exact ax) Iu
     have stay:∀{x t:Int},gE N (H.erase e) x t→gE N (H.erase e) (N.dst e) x→gE N ((H.erase e).filter q) x t:=λ{x t} u=>by
      induction u with
      |refl v=>intro _;exact .refl v
      |step a aA _ bu=>intro hu;exact .step a (List.mem_filter.2 ⟨aA,decide_eq_true hu⟩) (bu (hu.trans (.one aA)))
     have off:∀{x t:Int},gE N (H.erase e) x t→¬gE N (H.erase e) (N.dst e) t→gE N ((H.erase e).filter λa=>!q a) x t:=λ{x t} u=>by
      induction u with
      |refl v=>intro _;exact .refl v
      |step a aA aI bu=>
       intro hu;refine .step a (List.mem_filter.2 ⟨aA,?_⟩) (bu hu);have:¬gE N (H.erase e) (N.dst e) (N.src a):=λbP=>hu (bP.trans (.step a aA aI));simp only[q,this,decide_false,Bool.not_false]
     have h1:=h.part S P R uL Iu c3 ak ax v;have yz:=Qt (N:=N) q (H.erase e);have aZ:hX N (e::(H.erase e).filter q)=N.cost e+hX N ((H.erase e).filter q):=tU _ _;have D:C P v≤hX N (e::(H.erase e).filter q):=by
      by_cases Xr:(e::(H.erase e).filter q).length≤n
      ·refine bu _ Xr (λa aA=>?_) P Iu (by omega) v λi hi=>?_
       ·rcases mem_cons.1 aA with rfl|aA
        ·exact jv _ he
        ·exact ob a (List.mem_filter.1 aA).1
       ·rw[aO]at hi;simp only[Bool.and_eq_true,decide_eq_true_eq]at hi;rw[←Nz];exact .step e (by simp) ((stay hi.2 (.refl _)).mono λa aA=>mem_cons.2 (.inr aA))
      ·
       have kH:hX N ((H.erase e).filter q)=hX N (H.erase e):=by
        have oT:=length_filter_le q (H.erase e);have mT:=length_erase_of_mem he;have hle:(H.erase e).length≤((H.erase e).filter q).length:=by
         simp only[length_cons]at Xr;omega
        rw[List.filter_eq_self.2 (length_filter_eq_length_iff.1 (by omega))]
       have bV:=As P al7 Iu (by omega) v (λi hi=>ah i (by rw[aO]at hi;simp at hi;exact hi.1));omega
     have aq:C R v≤hX N ((H.erase e).filter λa=>!q a):=by
      refine bu _ (Nat.le_trans (length_filter_le _ _) eH) (λa aA=>ob a (List.mem_filter.1 aA).1) R c3 (by omega) v λi hi=>?_;rw[aL]at hi;simp only[Bool.and_eq_true,Bool.not_eq_true',decide_eq_false_iff_not]at hi;obtain⟨e2,vE,Cf,M6⟩:=Po (ah i hi.1) (ys i hi.1);have Is:=M6.mono Xg;have cA:e2≠e:=λh=>by subst h;exact hi.2 Is
      have M7:e2∈H.erase e:=(List.mem_erase_of_ne cA).2 vE;refine off ?_ hi.2;rw[←Cf];exact .step e2 M7 Is
     omega
end net
end
section
section net2
variable {A:Type}[DecidableEq A]{N:x1 A}
inductive pU(N:x1 A)(L:List A)(k:Nat)(ts:Nat→Int):Nat→Int→List A→Prop
 |one (i:Nat):i<k→pU N L k ts (2 ^ i) (ts i) []
 |hop {S:Nat} {H:List A} (a:A):a∈L→pU N L k ts S (N.dst a) H→pU N L k ts S (N.src a) (a::H)
 |part {P R:Nat} {v:Int} {H K:List A}:P &&& R=0→pU N L k ts P v H→pU N L k ts R v K→pU N L k ts (P ||| R) v (H++K)
def pU.sub{L:List A}{k:Nat}{ts:Nat→Int}{S:Nat}{v:Int}{H:List A}(h:pU N L k ts S v H):∀a∈H,a∈L:=by
 induction h with
 |one i _=>intro a aA;cases aA
 |hop a aA _ bu=>
  intro b U;rcases mem_cons.1 U with rfl|U
  ·exact aA
  ·exact bu b U
 |part _ _ _ h1 D=>
  intro b U;rcases List.mem_append.1 U with U|U
  ·exact h1 b U
  ·exact D b U
def pU.x6{L:List A}{k:Nat}{ts:Nat→Int}{S:Nat}{v:Int}{H:List A}(h:pU N L k ts S v H):∀i,S.testBit i=true→gE N H v (ts i):=by
 induction h with
 |one i _=>
  intro j aY;rw[Nat.testBit_two_pow]at aY;have:i=j:=by simpa using aY
  subst this;exact .refl _
 |hop a aA _ bu=>exact λi hi=>.step a (by simp) ((bu i hi).mono λb U=>mem_cons.2 (.inr U))
 |part _ _ _ h1 D=>
  intro i hi;rw[Nat.testBit_or,Bool.or_eq_true]at hi;rcases hi with hi|hi
  ·exact(h1 i hi).mono λb U=>List.mem_append.2 (.inl U)
  ·exact(D i hi).mono λb U=>List.mem_append.2 (.inr U)
structure qp(N:x1 A)(L:List A)(T:Int→Prop)(v:Int)(H:List A):Prop where
 sub:∀a∈H,a∈L
 pos:∀a∈L,0<N.cost a
 x6:∀t,T t→gE N H v t
 min:∀K,(∀a∈K,a∈L)→(∀t,T t→gE N K v t)→hX N H≤hX N K
variable {L:List A}{T:Int→Prop}{v:Int}{H:List A}
def qp.need(h:qp N L T v H){a:A}(aA:a∈H)(ah:∀t,T t→gE N (H.erase a) v t):False:=by
 have h1:=h.min (H.erase a) (λb U=>h.sub b (List.mem_of_mem_erase U)) ah;have D:=CS (N:=N) aA;have aq:=h.pos a (h.sub a aA);omega
def qp.once(h:qp N L T v H){a:A}(aA:a∈H):a∉H.erase a:=λD=>h.need aA λt b5=>(h.x6 t b5).mono λb U=>by
 by_cases sM:b=a
 ·rw[sM];exact D
 ·exact(List.mem_erase_of_ne sM).2 U
def YN:∀{H:List A},(∀a∈H,a∉H.erase a)→H.Nodup
 |[],_=>nodup_nil
 |a::H,h=>by
  have aA:a∉H:=by have:=h a (by simp);rwa [erase_cons_head]at this
  refine nodup_cons.2 ⟨aA,YN λb U eO=>?_⟩;have hs:a≠b:=λe=>aA (e▸U);refine h b (mem_cons.2 (.inr U)) ?_;rw[erase_cons_tail (by simpa using hs)];exact mem_cons.2 (.inr eO)
def qp.nodup(h:qp N L T v H):H.Nodup:=YN λ_ aA=>h.once aA
def P0{x y:Int}(h:gE N H x y):x=y∨∃e∈H,N.dst e=y∧gE N (H.filter λa=>!decide (N.dst a=y)) x (N.src e):=by
 induction h with
 |refl v=>exact .inl rfl
 |@step aR a aA aI bu=>
  by_cases ai:N.dst a=aR
  ·exact .inr ⟨a,aA,ai,.refl _⟩
  ·rcases bu with bu|⟨e,h1,D,aq⟩
   ·exact absurd bu ai
   ·exact .inr ⟨e,h1,D,.step a (List.mem_filter.2 ⟨aA,by simp[ai]⟩) aq⟩
end net2
end
end
section
set_option linter.all false
open Go List
noncomputable instance asx:DecidableEq bQ:=λ_ _=>Classical.propDecidable _
def gp:x1 bQ:=⟨λa=>a.Hop.br,λa=>a.Hop.bh,λa=>a.dn⟩
structure vW(ay:List bQ):Prop where
 cost:∀a∈ay,1≤a.dn∧a.dn≤1000
 to:∀a∈ay,a.Hop.bh≠0
 hop:∀a∈ay,∀b∈ay,a.Hop=b.Hop→a=b
 len:ay.length≤1000
structure zb(ay:List bQ)(root:Int)(ts:List Int)(Z:List bO)(c:Int):Prop where
 ex:∃ij:wu,qp gp ay (λt=>t∈ts) root ij∧hX gp ij=c∧Z.Perm (ij.map (·.Hop))
 rE:Z.Pairwise λa b=>fC [λx:bO=>x.br,λx:bO=>x.bh] a b<0
def Qj(ay:wu)(root:Int)(ts:cO)(r:x2×Int×Bool):Prop:=(r.2.2=true∧zb ay root ts r.1 r.2.1)∨(r=([],0,false)∧¬∀t,t∈ts→gE gp ay root t)
noncomputable def Jp{β:Type}(ay:wu)(root:Int)(ts:cO)(K:(x2×Int×Bool)→Option β):Option β:=@ite _ (vW ay∧ts.length≤6) (Classical.propDecidable _) (Es (Qj ay root ts) K) none
end
section
set_option linter.all false
open Go List
def hn:cO→cO
 |[]=>[]
 |x::r=>match hn r with
  |[]=>[x]
  |y::s=>if x=y then y::s else x::y::s
def ir(m:List (Int×Int))(r:Int):Int:=(az m r).getD 2305843009213693951
def qG(s:List (Int×Int)×Bool)(a:bQ):List (Int×Int)×Bool:=if a.dn+ir s.1 a.Hop.bh<ir s.1 a.Hop.br then(bH s.1 a.Hop.br (a.dn+ir s.1 a.Hop.bh),true)else s
def y4(ay:wu)(m:List (Int×Int)):List (Int×Int)×Bool:=ay.foldl qG (m,false)
inductive tv(ay:List bQ):List (Int×Int)→List (Int×Int)→Prop
 |done {m:List (Int×Int)} (h:(y4 ay m).2=false):tv ay m m
 |more {m n:List (Int×Int)} (h:(y4 ay m).2=true) (aI:tv ay (y4 ay m).1 n):tv ay m n
variable {ay:wu}
def tv.unique{m n:List (Int×Int)}(h:tv ay m n):∀{jj:List (Int×Int)},tv ay m jj→jj=n:=by
 induction h with
 |done h=>intro jj b3;cases b3 with
  |done _=>rfl
  |more D _=>rw[h]at D;cases D
 |more h _ bu=>intro jj b3;cases b3 with
  |done D=>rw[h]at D;cases D
  |more _ aq=>exact bu aq
def qf(ay:wu):Prop:=∀a∈ay,0≤a.dn∧a.dn≤1000000
noncomputable def zM(ay:wu)(target:Int):Option (List (Int×Int)):=@dite _ (qf ay∧∃n,tv ay [(target,0)] n) (Classical.propDecidable _) (λh=>some (Classical.choose h.2)) (λ_=>none)
variable {t:Int}
def ZH{n:List (Int×Int)}(h:zM ay t=some n):qf ay∧tv ay [(t,0)] n:=by
 unfold zM at h;split at h
 ·rename_i ah;cases h;exact⟨ah.1,Classical.choose_spec ah.2⟩
 ·cases h
def ZV{n:List (Int×Int)}(aA:qf ay)(h:tv ay [(t,0)] n):zM ay t=some n:=by
 unfold zM;rw[dif_pos ⟨aA,n,h⟩];exact congrArg some (h.unique (Classical.choose_spec _))
end
section
open Go List
set_option maxRecDepth 100000
set_option linter.all false
section
noncomputable section
def F0(n:Int):j9:=
 some ((decide (1≤n))&&(decide (n≤1000)))
def Az(t:bz)(oj:Int):j9:=
 eE t.bx 0 (λ(a1:Int) (aK:ez) (cI:Unit→Option _) ()=>bif decide (aK.cS=oj)then some true else cI ()) (λ(aj:Unit)=>match aj with|()=>some false) ()
def FU(t:bz):jO:=
 bif ((decide (24<(t.bx.length:Int)))||(decide (60<(t.Links.length:Int))))then some (3:Int)else eE t.bx 0 (λ(a1:Int) (aK:ez) (cI:Unit→Option _) ()=>bif ((decide (aK.cS<1))||(decide (99<aK.cS)))then some (2:Int)else cI ()) (λ(aj:Unit)=>match aj with|()=>eE (List.drop 1 t.bx) 1 (λ(cf:Int) (e2:ez) (gn:Unit→Option _) ()=>aM (du t.bx (aG ((cf:Int)-(1:Int)))) λ(dJ:ez)=>bif decide (e2.cS≤dJ.cS)then some (25:Int)else gn ()) (λ(aj:Unit)=>match aj with|()=>eE t.Links 0 (λ(e4:Int) (dj:dy) (lV:Unit→Option _) ()=>jn (λ(fx:Bool)=>bif fx then some (2:Int)else lV ()) λdK=>aM (F0 dj.lg) λ(aD:Bool)=>(bif !aD then dK true else aM (F0 dj.lp) λ(bB:Bool)=>(bif !bB then dK true else(bif decide (dj.xq<0)then dK true else dK (decide (1000<dj.xq)))))) (λ(aj:Unit)=>match aj with|()=>eE t.Links 0 (λ(kR:Int) (fF:dy) (rC:Unit→Option _) ()=>jn (λ(nE:Bool)=>bif nE then some (4:Int)else rC ()) λgv=>aM (Az t fF.A) λ(cm:Bool)=>(bif !cm then gv true else aM (Az t fF.B) λ(bZ:Bool)=>gv (!bZ))) (λ(aj:Unit)=>match aj with|()=>eE t.Links 0 (λ(kS:Int) (g3:dy) (wC:Unit→Option _) ()=>bif decide (g3.B≤g3.A)then some (8:Int)else wC ()) (λ(aj:Unit)=>match aj with|()=>eE (List.drop 1 t.Links) 1 (λ(mo:Int) (jy:dy) (Eb:Unit→Option _) ()=>aM (du t.Links (aG ((mo:Int)-(1:Int)))) λ(eo:dy)=>bif ((decide (jy.A<eo.A))||((decide (eo.A=jy.A))&&(decide (jy.B≤eo.B))))then some (25:Int)else Eb ()) (λ(aj:Unit)=>match aj with|()=>some (0:Int)) ()) ()) ()) ()) ()) ()
end
end
section
noncomputable section
def yC(t:bz)(oj:Int):j9:=
 aM (FU t) λ(aD:Int)=>(bif decide (aD=0)then aM (Az t oj) λ(bB:Bool)=>some bB else some false)
end
end
section
noncomputable section
def CG(e5:Int):j9:=
 some (!decide (e5=e5))
def oK(e5:Int)(y:Int):jO:=
 aM (CG e5) λ(aD:Bool)=>aM (CG y) λ(bB:Bool)=>bif aD then bif bB then some (0:Int)else some (-1:Int)else bif bB then some (1:Int)else bif decide (e5<y)then some (-1:Int)else bif decide (y<e5)then some (1:Int)else some (0:Int)
def tI(gA:cO):jO:=
 eE gA 0 (λ(a1:Int) (aK:Int) (cI:Unit→Option _) ()=>bif !decide (aK=0)then some aK else cI ()) (λ(aj:Unit)=>match aj with|()=>some (0:Int)) ()
def EH(e5:zA)(target:dy)(hE:dy→dy→jO):Option (Int×Bool):=
 iV (λ(cI:(Int×Int)→Option _) (ct,e0)=>bif decide (ct<e0)then aM (du e5 (aG (Int.fdiv (IntKind.wrap .u64 (aG (ct+e0))) (2 ^ min (1:Int).toNat 64)))) λ(dJ:dy)=>aM (hE dJ target) λ(aD:Int)=>bif decide (aD<0)then cI (aG ((aG (Int.fdiv (IntKind.wrap .u64 (aG (ct+e0))) (2 ^ min (1:Int).toNat 64)))+(1:Int)),e0)else cI (ct,aG (Int.fdiv (IntKind.wrap .u64 (aG (ct+e0))) (2 ^ min (1:Int).toNat 64)))else(bif decide (ct<(e5.length:Int))then aM (du e5 ct) λ(eo:dy)=>aM (hE eo target) λ(bB:Int)=>some (ct,decide (bB=0))else some (ct,false))) ((0:Int),(e5.length:Int))
def BV(e5:AU)(target:Int)(hE:ez→Int→jO):Option (Int×Bool):=
 iV (λ(cI:(Int×Int)→Option _) (ct,e0)=>bif decide (ct<e0)then aM (du e5 (aG (Int.fdiv (IntKind.wrap .u64 (aG (ct+e0))) (2 ^ min (1:Int).toNat 64)))) λ(dJ:ez)=>aM (hE dJ target) λ(aD:Int)=>bif decide (aD<0)then cI (aG ((aG (Int.fdiv (IntKind.wrap .u64 (aG (ct+e0))) (2 ^ min (1:Int).toNat 64)))+(1:Int)),e0)else cI (ct,aG (Int.fdiv (IntKind.wrap .u64 (aG (ct+e0))) (2 ^ min (1:Int).toNat 64)))else(bif decide (ct<(e5.length:Int))then aM (du e5 ct) λ(eo:ez)=>aM (hE eo target) λ(bB:Int)=>some (ct,decide (bB=0))else some (ct,false))) ((0:Int),(e5.length:Int))
def IV(ei:cO)(v:Int):jO:=
 eE ei 0 (λ(a1:Int) (aK:Int) (cI:Unit→Option _) ()=>bif decide (v=aK)then some (a1:Int)else cI ()) (λ(aj:Unit)=>match aj with|()=>some (-1:Int)) ()
def Ip(ei:AU)(f:ez→j9):jO:=
 eE ei 0 (λ(a1:Int) (aK:ez) (cI:Unit→Option _) ()=>aM (f aK) λ(aD:Bool)=>bif aD then some (a1:Int)else cI ()) (λ(aj:Unit)=>match aj with|()=>some (-1:Int)) ()
def Il(ei:zA)(f:dy→j9):jO:=
 eE ei 0 (λ(a1:Int) (aK:dy) (cI:Unit→Option _) ()=>aM (f aK) λ(aD:Bool)=>bif aD then some (a1:Int)else cI ()) (λ(aj:Unit)=>match aj with|()=>some (-1:Int)) ()
def Iq(ei:cO)(f:Int→j9):jO:=
 eE ei 0 (λ(a1:Int) (aK:Int) (cI:Unit→Option _) ()=>aM (f aK) λ(aD:Bool)=>bif aD then some (a1:Int)else cI ()) (λ(aj:Unit)=>match aj with|()=>some (-1:Int)) ()
def wF(ei:cO)(v:Int):j9:=
 aM (IV ei v) λ(aD:Int)=>some (decide (0≤aD))
def EF(ei:AU)(f:ez→j9):j9:=
 aM (Ip ei f) λ(aD:Int)=>some (decide (0≤aD))
def zI(ei:zA)(f:dy→j9):j9:=
 aM (Il ei f) λ(aD:Int)=>some (decide (0≤aD))
def EN(ei:cO)(f:Int→j9):j9:=
 aM (Iq ei f) λ(aD:Int)=>some (decide (0≤aD))
def yB(n:Int)(least:Int)(mI:Int):j9:=
 some ((decide (least≤n))&&(decide (n≤mI)))
def Ca(a:dy)(b:dy):jO:=
 aM (oK a.A b.A) λ(aD:Int)=>aM (oK a.B b.B) λ(bB:Int)=>aM (tI ([aD,bB]:cO)) λ(cm:Int)=>some cm
def CH(qm:ez)(id:Int):jO:=
 aM (oK qm.cS id) λ(aD:Int)=>some aD
def I7(qm:ez):j9:=
 aM (yB qm.cS (1:Int) (99:Int)) λ(aD:Bool)=>some (!aD)
def FB(l:dy):j9:=
 aM (yB l.lg (1:Int) (1000:Int)) λ(aD:Bool)=>(bif !aD then some true else aM (yB l.lp (1:Int) (1000:Int)) λ(bB:Bool)=>(bif !bB then some true else aM (yB l.xq (0:Int) (1000:Int)) λ(cm:Bool)=>some (!cm)))
def Cb(id:Int)(lX:bz):j9:=
 aM (BV lX.bx id CH) λ(aD:Int×Bool)=>some (!aD.2)
def I8(l:dy)(lX:bz):j9:=
 aM (Cb l.A lX) λ(aD:Bool)=>(bif aD then some true else aM (Cb l.B lX) λ(bB:Bool)=>some bB)
def I9(l:dy):j9:=
 some (decide (l.B≤l.A))
def yb(t:bz):jO:=
 bif ((decide (24<(t.bx.length:Int)))||(decide (60<(t.Links.length:Int))))then some (3:Int)else aM (EF t.bx I7) λ(aD:Bool)=>bif aD then some (2:Int)else eE t.bx 0 (λ(a1:Int) (aK:ez) (cI:Unit→Option _) ()=>jn (λ(fx:Bool)=>bif fx then some (25:Int)else cI ()) λdK=>(bif decide (0<(a1:Int))then aM (du t.bx (aG ((a1:Int)-(1:Int)))) λ(dJ:ez)=>dK (decide (aK.cS≤dJ.cS))else dK false)) (λ(aj:Unit)=>match aj with|()=>aM (zI t.Links FB) λ(bB:Bool)=>bif bB then some (2:Int)else aM (zI t.Links (λ(hH:dy)=>I8 hH t)) λ(cm:Bool)=>bif cm then some (4:Int)else aM (zI t.Links I9) λ(bZ:Bool)=>bif bZ then some (8:Int)else eE t.Links 0 (λ(cf:Int) (e2:dy) (gn:Unit→Option _) ()=>jn (λ(nE:Bool)=>bif nE then some (25:Int)else gn ()) λgv=>(bif decide (0<(cf:Int))then aM (du t.Links (aG ((cf:Int)-(1:Int)))) λ(eo:dy)=>aM (Ca eo e2) λ(gJ:Int)=>gv (decide (0≤gJ))else gv false)) (λ(aj:Unit)=>match aj with|()=>some (0:Int)) ()) ()
def CB(t:bz):j9:=
 aM (yb t) λ(aD:Int)=>some (decide (aD=0))
def FD(t:bz)(nH:Int):Option (ez×Bool):=
 aM (BV t.bx nH CH) λ(aD:Int×Bool)=>bif !aD.2 then some ((ez.mk (0:Int) false),false)else aM (du t.bx aD.1) λ(dJ:ez)=>some (dJ,true)
def Aq(t:bz)(nH:Int):j9:=
 aM (FD t nH) λ(aD:ez×Bool)=>aM (CB t) λ(bB:Bool)=>(bif bB then some aD.2 else some false)
def CI(t:bz)(hV:Int)(iQ:Int):Option (Int×Bool):=
 aM (CB t) λ(aD:Bool)=>bif !aD then some ((0:Int),false)else aM (EH t.Links (dy.mk (if iQ<hV then iQ else hV) (if iQ>hV then iQ else hV) (0:Int) (0:Int) (0:Int)) Ca) λ(bB:Int×Bool)=>bif !bB.2 then some ((0:Int),false)else bif decide (hV<iQ)then aM (du t.Links bB.1) λ(dJ:dy)=>some (dJ.lg,true)else aM (du t.Links bB.1) λ(eo:dy)=>some (eo.lp,true)
end
end
section
noncomputable section
def Oo(e5:Int):jO:=
 jn (λ(aj:Int×Int)=>match aj with|(aD,gN)=>jn (λ(aj:Int×Int)=>match aj with|(bB,xy)=>jn (λ(aj:Int×Int)=>match aj with|(cm,CV)=>aM (N6 (⟨#[0,1,2,2,3,3,3,3,4,4,4,4,4,4,4,4,5,5,5,5,5,5,5,5,5,5,5,5,5,5,5,5,6,6,6,6,6,6,6,6,6,6,6,6,6,6,6,6,6,6,6,6,6,6,6,6,6,6,6,6,6,6,6,6,7,7,7,7,7,7,7,7,7,7,7,7,7,7,7,7,7,7,7,7,7,7,7,7,7,7,7,7,7,7,7,7,7,7,7,7,7,7,7,7,7,7,7,7,7,7,7,7,7,7,7,7,7,7,7,7,7,7,7,7,7,7,7,7,8,8,8,8,8,8,8,8,8,8,8,8,8,8,8,8,8,8,8,8,8,8,8,8,8,8,8,8,8,8,8,8,8,8,8,8,8,8,8,8,8,8,8,8,8,8,8,8,8,8,8,8,8,8,8,8,8,8,8,8,8,8,8,8,8,8,8,8,8,8,8,8,8,8,8,8,8,8,8,8,8,8,8,8,8,8,8,8,8,8,8,8,8,8,8,8,8,8,8,8,8,8,8,8,8,8,8,8,8,8,8,8,8,8,8,8,8,8,8,8,8,8,8,8,8,8,8,8]⟩:ByteArray) (IntKind.wrap .u8 cm)) λ(pq:UInt8)=>some (aG (CV+(aG (pq.toNat:Int))))) λkV=>bif decide (256≤bB)then kV (Int.fdiv bB (2 ^ min (8:Int).toNat 64),aG (xy+8))else kV (bB,xy)) λgv=>bif decide (65536≤aD)then gv (Int.fdiv aD (2 ^ min (16:Int).toNat 64),aG (gN+16))else gv (aD,gN)) λdK=>bif decide (4294967296≤e5)then dK (Int.fdiv e5 (2 ^ min (32:Int).toNat 64),(32:Int))else dK (e5,(0:Int))
def OA(e5:Int):jO:=
 aM (Oo e5) λ(aD:Int)=>some aD
def M5: Option Unit:=
 iV (λ(cI:Unit→Option _) ()=>some ()) ()
def N0(FQ:Int):Option Unit:=
 iV (λ(cI:Unit→Option _) ()=>aM (M5) λ(aD:Unit)=>some ()) ()
def XV: Option Unit:=
 aM (OA (0:Int)) λ(aD:Int)=>aM (N0 aD) λ(bB:Unit)=>some ()
end
end
section
noncomputable section
def Fv(t:cO):Option dL:=
 aM (wg t (0:Int) (if(2000:Int)<(t.length:Int)then(2000:Int)else(t.length:Int))) λ(cv:cO)=>some (dL.mk cv (0:Int))
def EO(t:dL):Option (Int×dL):=
 bif decide ((t.L.length:Int)≤t.At)then some ((0:Int),t)else aM (du t.L (aG ((aG (t.At+1))-(1:Int)))) λ(dJ:Int)=>some (dJ,(dL.mk t.L (aG (t.At+1))))
def Fw(e5:Int)(n:Int):jO:=
 bif decide (n<1)then some (0:Int)else jF (decide (n≠0))<|jn (λ(aD:Int)=>some aD) λdK=>bif decide (Int.tmod e5 n<0)then dK (aG ((Int.tmod e5 n)+n))else dK (Int.tmod e5 n)
def oJ(t:dL)(n:Int):Option (Int×dL):=
 aM (EO t) λ(aD:Int×dL)=>aM (Fw aD.1 n) λ(bB:Int)=>some (bB,aD.2)
def uJ(t:dL)(lo:Int)(hi:Int):Option (Int×dL):=
 aM (oJ t (aG ((aG (hi-lo))+(1:Int)))) λ(aD:Int×dL)=>some (aG (lo+aD.1),aD.2)
def wJ(t:dL)(l:cO):Option (Int×dL):=
 aM (oJ t (l.length:Int)) λ(aD:Int×dL)=>aM (du l aD.1) λ(dJ:Int)=>some (dJ,aD.2)
def Fx(l:cO)(h3:Int):rR:=
 iV (λ(cI:Int→Option _) (k5:Int)=>jn (λ(fx:Bool)=>bif fx then cI (aG (k5+1))else jn (λ(nE:Bool)=>bif nE then some l else aM (wg l k5 (l.length:Int)) λ(cv:cO)=>aM (iP ([h3]:cO) cv) λ(fB:cO)=>aM (wg l (0:Int) k5) λ(hC:cO)=>aM (iP hC fB) λ(jZ:cO)=>some jZ) λgv=>(bif decide (k5<(l.length:Int))then aM (du l k5) λ(eo:Int)=>gv (decide (eo=h3))else gv false)) λdK=>(bif decide (k5<(l.length:Int))then aM (du l k5) λ(dJ:Int)=>dK (decide (dJ<h3))else dK false)) (0:Int)
end
end
section
noncomputable section
def FM(t:dL)(mI:Int):Option (bz×dL):=
 aM (uJ t (1:Int) mI) λ(aD:Int×dL)=>jF (decide (aD.1≤9223372036854775807))<|nB (aD.1-0).toNat (0:Int) (λ(a1:Int) (cI:(Int×(AU)×(cO)×Int)→Option _) (wo,b1,cU,dH)=>aM (wJ (dL.mk cU dH) ([(1:Int),(1:Int),(1:Int),(2:Int),(5:Int)]:cO)) λ(bB:Int×dL)=>aM (iP b1 ([(ez.mk (aG (wo+bB.1)) true)]:AU)) λ(cv:AU)=>cI (aG (wo+bB.1),cv,bB.2.L,bB.2.At)) (λ(a1:Int) (aj:Int×(AU)×(cO)×Int)=>match aj with|(wo,b1,cU,dH)=>jF (decide (0<aD.1)&&decide (aD.1≤4294967296))<|jF (decide (((List.replicate aD.1.toNat []:jV).length:Int)≤9223372036854775807))<|nB (((List.replicate aD.1.toNat []:jV).length:Int)-(0:Int)).toNat (0:Int) (λ(cf:Int) (gn:(jV)→Option _) (cH:(jV))=>jF (decide (0≤aD.1)&&decide (aD.1≤4294967296))<|aM (du cH (cf:Int)) λ(dJ:rT)=>gn (List.set cH (cf:Int).toNat (List.replicate (aD.1).toNat false))) (λ(cf:Int) (cH:(jV))=>jF (decide (aD.1≤9223372036854775807))<|nB (aD.1-1).toNat (1:Int) (λ(e4:Int) (lV:((cO)×Int×(jV))→Option _) (gb,nW,nC)=>jn (λ(aj:(jV)×(cO)×Int)=>match aj with|(q8,CO,BC)=>lV (CO,BC,q8)) λdK=>aM (oJ (dL.mk gb nW) (12:Int)) λ(cm:Int×dL)=>bif decide (cm.1<11)then aM (oJ cm.2 (e4:Int)) λ(bZ:Int×dL)=>aM (du nC bZ.1) λ(eo:rT)=>aM (du eo (e4:Int)) λ(oN:Bool)=>aM (jC eo (e4:Int) true) λ(fB:rT)=>dK ((List.set nC bZ.1.toNat fB),bZ.2.L,bZ.2.At)else dK (nC,cm.2.L,cm.2.At)) (λ(e4:Int) (aj:(cO)×Int×(jV))=>match aj with|(gb,nW,nC)=>aM (oJ (dL.mk gb nW) (aG (aD.1+2))) λ(gJ:Int×dL)=>iV (λ(rC:(Int×(cO)×Int×(jV))→Option _) (ct,BD,BE,iO)=>bif decide (0<ct)then jn (λ(aj:(jV)×(cO)×Int)=>match aj with|(BF,BG,BH)=>rC (aG (ct-1),BG,BH,BF)) λgv=>aM (oJ (dL.mk BD BE) aD.1) λ(eG:Int×dL)=>aM (oJ eG.2 aD.1) λ(gR:Int×dL)=>bif !decide (eG.1=gR.1)then aM (du iO (if gR.1<eG.1 then gR.1 else eG.1)) λ(mN:rT)=>aM (du mN (if gR.1>eG.1 then gR.1 else eG.1)) λ(rI:Bool)=>aM (jC mN (if gR.1>eG.1 then gR.1 else eG.1) true) λ(hC:rT)=>gv ((List.set iO (if gR.1<eG.1 then gR.1 else eG.1).toNat hC),gR.2.L,gR.2.At)else gv (iO,gR.2.L,gR.2.At)else aM (oJ (dL.mk BD BE) (3:Int)) λ(qI:Int×dL)=>jF (decide ((iO.length:Int)≤9223372036854775807))<|nB ((iO.length:Int)-(0:Int)).toNat (0:Int) (λ(kS:Int) (wC:((zA)×(cO)×Int)→Option _) (xR,xS,xT)=>jF (decide ((iO.length:Int)≤9223372036854775807))<|nB ((iO.length:Int)-(0:Int)).toNat (0:Int) (λ(mo:Int) (Eb:((zA)×(cO)×Int)→Option _) (tu,vg,vh)=>jn (λ(aj:(cO)×Int×(zA))=>match aj with|(BI,BJ,BK)=>Eb (BK,BI,BJ)) λkV=>aM (du iO (kS:Int)) λ(rJ:rT)=>aM (du rJ (mo:Int)) λ(tH:Bool)=>bif !tH then kV (vg,vh,tu)else aM (du b1 (kS:Int)) λ(vA:ez)=>aM (du b1 (mo:Int)) λ(vB:ez)=>aM (wJ (dL.mk vg vh) ([(0:Int),(1:Int),(2:Int),(3:Int),(5:Int),(10:Int),(1000:Int)]:cO)) λ(hL:Int×dL)=>jn (λ(aj:(cO)×Int×Int×Int)=>match aj with|(BL,BM,Eu,Ev)=>aM (iP tu ([(dy.mk vA.cS vB.cS Eu Ev hL.1)]:zA)) λ(jZ:zA)=>kV (BL,BM,jZ)) λD3=>bif !(decide (qI.1=0))then aM (uJ hL.2 (1:Int) (20:Int)) λ(fz:Int×dL)=>aM (wJ fz.2 ([(1:Int),(2:Int),(3:Int),fz.1,(1000:Int)]:cO)) λ(lN:Int×dL)=>aM (uJ lN.2 (1:Int) (20:Int)) λ(h7:Int×dL)=>aM (wJ h7.2 ([lN.1,lN.1,h7.1]:cO)) λ(o6:Int×dL)=>D3 (o6.2.L,o6.2.At,lN.1,o6.1)else D3 (hL.2.L,hL.2.At,(1:Int),(1:Int))) (λ(mo:Int) (aj:(zA)×(cO)×Int)=>match aj with|(tu,vg,vh)=>wC (tu,vg,vh)) (xR,xS,xT)) (λ(kS:Int) (aj:(zA)×(cO)×Int)=>match aj with|(xR,xS,xT)=>some ((bz.mk b1 xR),(dL.mk xS xT))) ([],qI.2.L,qI.2.At)) (gJ.1,gJ.2.L,gJ.2.At,nC)) (cU,dH,cH)) (List.replicate aD.1.toNat []:jV)) ((0:Int),[],aD.2.L,aD.2.At)
def F9(t:dL)(p:bz)(n:Int):Option ((cO)×dL):=
 aM (oJ t (aG (n+1))) λ(aD:Int×dL)=>iV (λ(cI:((cO)×Int×(cO)×Int)→Option _) (e6,ct,b1,cU)=>bif ((decide (0<ct))&&(decide (0<(p.bx.length:Int))))then aM (oJ (dL.mk b1 cU) (p.bx.length:Int)) λ(bB:Int×dL)=>aM (du p.bx bB.1) λ(dJ:ez)=>aM (Fx e6 dJ.cS) λ(cm:(cO))=>cI (cm,aG (ct-1),bB.2.L,bB.2.At)else some (e6,(dL.mk b1 cU))) ([],aD.1,aD.2.L,aD.2.At)
end
end
section
noncomputable section
def Cc(n:Int):j9:=
 some ((decide (1≤n))&&(decide (n≤99)))
def Fo(t:g2):Option (List (Int×Bool)):=
 iV (λ(cI:(Bool×(List (Int×Bool)))→Option _) (Dl,b1)=>bif Dl then eE t.Links 0 (λ(cf:Int) (e2:bO) (gn:(Bool×(List (Int×Bool)))→Option _) (u1,cU)=>jn (λ(aj:Bool×(List (Int×Bool)))=>match aj with|(Dm,dH)=>gn (Dm,dH)) λdK=>bif (((az cU e2.br).getD false)&&(!((az cU e2.bh).getD false)))then dK (true,bH cU e2.bh true)else dK (u1,cU)) (λ(aj:Bool×(List (Int×Bool)))=>match aj with|(u1,cU)=>cI (u1,cU)) (false,b1)else some b1) (true,bH [] t.h9 true)
def Ce(t:g2):jO:=
 aM (Cc t.h9) λ(aD:Bool)=>bif !aD then some (2:Int)else eE t.Links 0 (λ(a1:Int) (aK:bO) (cI:Unit→Option _) ()=>jn (λ(fx:Bool)=>bif fx then some (2:Int)else cI ()) λdK=>aM (Cc aK.br) λ(bB:Bool)=>(bif !bB then dK true else aM (Cc aK.bh) λ(cm:Bool)=>dK (!cm))) (λ(aj:Unit)=>match aj with|()=>eE (List.drop 1 t.Links) 1 (λ(cf:Int) (e2:bO) (gn:Unit→Option _) ()=>aM (du t.Links (aG ((cf:Int)-(1:Int)))) λ(dJ:bO)=>aM (oK dJ.br e2.br) λ(bZ:Int)=>aM (oK dJ.bh e2.bh) λ(gJ:Int)=>aM (tI ([bZ,gJ]:cO)) λ(eG:Int)=>bif decide (0≤eG)then some (25:Int)else gn ()) (λ(aj:Unit)=>match aj with|()=>eE t.Links 0 (λ(e4:Int) (dj:bO) (lV:(List (Int×Bool))→Option _) (b1:(List (Int×Bool)))=>bif ((az b1 dj.bh).getD false)then some (8:Int)else lV (bH b1 dj.bh true)) (λ(b1:(List (Int×Bool)))=>aM (Fo t) λ(gR:(List (Int×Bool)))=>eE t.Links 0 (λ(kR:Int) (fF:bO) (rC:Unit→Option _) ()=>bif !((az gR fF.br).getD false)then some (10:Int)else rC ()) (λ(aj:Unit)=>match aj with|()=>some (0:Int)) ()) (bH [] t.h9 true)) ()) ()
def Fp(t:g2):rR:=
 aM (Ce t) λ(aD:Int)=>bif !decide (aD=0)then some []else eE t.Links 0 (λ(a1:Int) (aK:bO) (cI:(cO)→Option _) (e6:(cO))=>aM (iP e6 ([aK.bh]:cO)) λ(cv:cO)=>cI cv) (λ(e6:(cO))=>jF (decide (e6.length<4611686018427387904))<|some (fW e6)) ([t.h9]:cO)
end
end
section
noncomputable section
def Jn(a:bO)(b:bO):jO:=
 aM (oK a.br b.br) λ(aD:Int)=>aM (oK a.bh b.bh) λ(bB:Int)=>aM (tI ([aD,bB]:cO)) λ(cm:Int)=>some cm
def Jy(a:bO)(b:bO):jO:=
 aM (oK a.br b.br) λ(aD:Int)=>aM (oK a.bh b.bh) λ(bB:Int)=>aM (tI ([aD,bB]:cO)) λ(cm:Int)=>some cm
def JH(a:bQ)(b:bQ):jO:=
 aM (oK a.Hop.br b.Hop.br) λ(aD:Int)=>aM (oK a.Hop.bh b.Hop.bh) λ(bB:Int)=>aM (tI ([aD,bB]:cO)) λ(cm:Int)=>some cm
def Je(a:eP)(b:eP):jO:=
 aM (oK a.fV b.fV) λ(aD:Int)=>some aD
end
end
section
noncomputable section
def AD(t:bz):Option (List bQ):=
 eE t.Links 0 (λ(a1:Int) (aK:dy) (cI:(wu)→Option _) (e6:(wu))=>aM (iP e6 ([(bQ.mk (bO.mk aK.A aK.B) aK.lg),(bQ.mk (bO.mk aK.B aK.A) aK.lp)]:wu)) λ(cv:wu)=>cI cv) (λ(e6:(wu))=>aM (l2 (fC [λx:bQ=>x.Hop.br,λx:bQ=>x.Hop.bh]) e6) λ(fB:wu)=>some fB) []
end
end
section
noncomputable section
def zO(l:cO):j9:=
 eE (List.drop 1 l) 1 (λ(a1:Int) (aK:Int) (cI:Unit→Option _) ()=>aM (du l (aG ((a1:Int)-(1:Int)))) λ(dJ:Int)=>bif decide (aK≤dJ)then some false else cI ()) (λ(aj:Unit)=>match aj with|()=>some true) ()
def ya(t:bz)(root:Int)(eL:cO):jO:=
 aM (yb t) λ(aD:Int)=>bif !decide (aD=0)then some (1:Int)else aM (zO eL) λ(bB:Bool)=>bif !bB then some (25:Int)else aM (iP ([root]:cO) eL) λ(cv:cO)=>eE cv 0 (λ(a1:Int) (aK:Int) (cI:Unit→Option _) ()=>aM (Aq t aK) λ(cm:Bool)=>bif !cm then some (4:Int)else cI ()) (λ(aj:Unit)=>match aj with|()=>some (0:Int)) ()
def Fq(t:bz)(h3:g2)(eL:cO):jO:=
 aM (yb t) λ(aD:Int)=>bif !decide (aD=0)then some (1:Int)else aM (Ce h3) λ(bB:Int)=>bif !decide (bB=0)then some bB else aM (iP ([h3.h9]:cO) eL) λ(cv:cO)=>eE cv 0 (λ(a1:Int) (aK:Int) (cI:Unit→Option _) ()=>aM (Aq t aK) λ(cm:Bool)=>bif !cm then some (4:Int)else cI ()) (λ(aj:Unit)=>match aj with|()=>eE h3.Links 0 (λ(cf:Int) (e2:bO) (gn:Unit→Option _) ()=>aM (CI t e2.br e2.bh) λ(bZ:Int×Bool)=>bif !bZ.2 then some (4:Int)else gn ()) (λ(aj:Unit)=>match aj with|()=>aM (zO eL) λ(gJ:Bool)=>bif !gJ then some (25:Int)else aM (Fp h3) λ(eG:(cO))=>eE eL 0 (λ(e4:Int) (dj:Int) (lV:Unit→Option _) ()=>aM (wF eG dj) λ(gR:Bool)=>bif !gR then some (9:Int)else lV ()) (λ(aj:Unit)=>match aj with|()=>some (0:Int)) ()) ()) ()
def FK(t:bz)(h3:g2):Option (Int×Int):=
 aM (Fq t h3 []) λ(aD:Int)=>bif !decide (aD=0)then some ((0:Int),aD)else eE h3.Links 0 (λ(a1:Int) (aK:bO) (cI:Int→Option _) (jB:Int)=>aM (CI t aK.br aK.bh) λ(bB:Int×Bool)=>cI (aG (jB+bB.1))) (λ(jB:Int)=>some (jB,(0:Int))) (0:Int)
def Jb(qm:Int)(lX:cu):j9:=
 aM (wF lX.bx qm) λ(aD:Bool)=>some aD
def Fy(t:bz)(root:Int)(eL:cO)(l:wz):j9:=
 bif decide (200<(l.length:Int))then some false else eE l 0 (λ(a1:Int) (aK:cu) (cI:Unit→Option _) ()=>jn (λ(fx:Bool)=>bif fx then some false else eE aK.bx 0 (λ(cf:Int) (e2:Int) (gn:Unit→Option _) ()=>aM (Aq t e2) λ(cm:Bool)=>bif !cm then some false else gn ()) (λ(aj:Unit)=>match aj with|()=>aM (EN eL (λ(hH:Int)=>Jb hH aK)) λ(bZ:Bool)=>bif !bZ then some false else cI ()) ()) λdK=>(bif decide (aK.Value<1)then dK true else(bif decide (24000<aK.Value)then dK true else aM (zO aK.bx) λ(aD:Bool)=>(bif !aD then dK true else aM (wF aK.bx root) λ(bB:Bool)=>dK bB)))) (λ(aj:Unit)=>match aj with|()=>aM (AD t) λ(gJ:(wu))=>eE gJ 0 (λ(e4:Int) (dj:bQ) (lV:Unit→Option _) ()=>eE l 0 (λ(kR:Int) (fF:cu) (rC:Int→Option _) (jB:Int)=>jn (λ(DX:Int)=>rC DX) λgv=>jn (λ(nE:Bool)=>bif nE then gv (aG (jB+fF.Value))else gv jB) λkV=>aM (wF fF.bx dj.Hop.bh) λ(eG:Bool)=>(bif eG then aM (wF fF.bx dj.Hop.br) λ(gR:Bool)=>kV (!gR)else kV false)) (λ(jB:Int)=>bif decide (dj.dn<jB)then some false else lV ()) (0:Int)) (λ(aj:Unit)=>match aj with|()=>some true) ()) ()
def x8(t:bz)(root:Int)(eL:cO)(l:wz):Option (Int×Int):=
 aM (ya t root eL) λ(aD:Int)=>bif !decide (aD=0)then some ((0:Int),aD)else aM (Fy t root eL l) λ(bB:Bool)=>bif !bB then some ((0:Int),(1:Int))else eE l 0 (λ(a1:Int) (aK:cu) (cI:Int→Option _) (jB:Int)=>cI (aG (jB+aK.Value))) (λ(jB:Int)=>some (jB,(0:Int))) (0:Int)
end
end
section
noncomputable section
def FV(t:bz)(oj:Int):jO:=
 eE t.bx 0 (λ(a1:Int) (aK:ez) (cI:Unit→Option _) ()=>bif decide (aK.cS=oj)then some (a1:Int)else cI ()) (λ(aj:Unit)=>match aj with|()=>some (0:Int)) ()
def Ga(t:bz)(zi:Int):rR:=
 jF (decide (0≤(t.bx.length:Int))&&decide ((t.bx.length:Int)≤4294967296))<|iV (λ(cI:((cO)×Int)→Option _) (vv,ct)=>bif decide (ct<(vv.length:Int))then jn (λ(B0:(cO))=>cI (B0,aG (ct+1))) λdK=>aM (du vv ct) λ(dJ:Int)=>aM (jC vv ct (1073741824:Int)) λ(cv:cO)=>aM (du t.bx ct) λ(eo:ez)=>bif decide (eo.cS=zi)then aM (du cv ct) λ(oN:Int)=>aM (jC cv ct (0:Int)) λ(fB:cO)=>dK fB else dK cv else iV (λ(gn:((cO)×Int)→Option _) (wK,tV)=>bif decide (tV<(wK.length:Int))then eE t.Links 0 (λ(e4:Int) (dj:dy) (lV:(cO)→Option _) (sy:(cO))=>jn (λ(B1:(cO))=>lV B1) λgv=>aM (FV t dj.A) λ(aD:Int)=>aM (FV t dj.B) λ(bB:Int)=>jn (λ(wL:(cO))=>aM (du wL aD) λ(rJ:Int)=>bif decide (rJ<1073741824)then aM (du wL bB) λ(tH:Int)=>aM (jC wL bB (if(aG (dj.lp+rJ))<tH then aG (dj.lp+rJ)else tH)) λ(jZ:cO)=>gv jZ else gv wL) λkV=>aM (du sy bB) λ(mN:Int)=>bif decide (mN<1073741824)then aM (du sy aD) λ(rI:Int)=>aM (jC sy aD (if(aG (dj.lg+mN))<rI then aG (dj.lg+mN)else rI)) λ(hC:cO)=>kV hC else kV sy) (λ(sy:(cO))=>gn (sy,aG (tV+1))) wK else some wK) (vv,(0:Int))) ((List.replicate ((t.bx.length:Int)).toNat (0:Int)),(0:Int))
def CR(t:bz)(d:cO)(AY:Int):jO:=
 eE t.bx 0 (λ(a1:Int) (aK:ez) (cI:Unit→Option _) ()=>bif decide (aK.cS=AY)then aM (du d (a1:Int)) λ(dJ:Int)=>some dJ else cI ()) (λ(aj:Unit)=>match aj with|()=>some (1073741824:Int)) ()
def F1(t:bz)(hV:Int)(iQ:Int):Option (Int×Bool):=
 jn (λ(fx:Bool)=>bif fx then some ((0:Int),false)else aM (Ga t iQ) λ(cm:(cO))=>aM (CR t cm hV) λ(bZ:Int)=>bif decide (bZ=1073741824)then some ((0:Int),false)else some (bZ,true)) λdK=>aM (yC t hV) λ(aD:Bool)=>(bif !aD then dK true else aM (yC t iQ) λ(bB:Bool)=>dK (!bB))
end
end
section
noncomputable section
def Cd{β:Type}(t:bz)(root:Int)(eL:cO)(fH:(g2×Int×Int)→Option β):Option β:=
 aM (ya t root eL) λ(aD:Int)=>bif !decide (aD=0)then fH ((g2.mk (0:Int) []),(0:Int),aD)else bif decide (6<(eL.length:Int))then fH ((g2.mk (0:Int) []),(0:Int),(3:Int))else aM (AD t) λ(bB:(wu))=>Jp bB root eL λ(cm:(x2)×Int×Bool)=>bif !cm.2.2 then fH ((g2.mk (0:Int) []),(0:Int),(9:Int))else fH ((g2.mk root cm.1),cm.2.1,(0:Int))
end
end
section
noncomputable section
def yc(t:bz):j9:=
 aM (yb t) λ(aD:Int)=>some (decide (aD=0))
def CJ(t:bz):Option sA:=
 eE t.bx 0 (λ(a1:Int) (aK:ez) (cI:((List (Int×yH))×(List (Int×yH)))→Option _) (b1,cU)=>cI (bH b1 aK.cS [],bH cU aK.cS [])) (λ(aj:(List (Int×yH))×(List (Int×yH)))=>match aj with|(b1,cU)=>eE t.Links 0 (λ(cf:Int) (e2:dy) (gn:((List (Int×yH))×(List (Int×yH)))→Option _) (dH,cH)=>aM (iP ((az dH e2.A).getD []) ([(eP.mk e2.B e2.lg)]:yH)) λ(cv:yH)=>aM (iP ((az (bH dH e2.A cv) e2.B).getD []) ([(eP.mk e2.A e2.lp)]:yH)) λ(fB:yH)=>aM (iP ((az cH e2.B).getD []) ([(eP.mk e2.A e2.lg)]:yH)) λ(hC:yH)=>aM (iP ((az (bH cH e2.B hC) e2.A).getD []) ([(eP.mk e2.B e2.lp)]:yH)) λ(jZ:yH)=>gn (bH (bH dH e2.A cv) e2.B fB,bH (bH cH e2.B hC) e2.A jZ)) (λ(aj:(List (Int×yH))×(List (Int×yH)))=>match aj with|(dH,cH)=>aM (yT dH (λ(gN:Int) (fx:yH) (gb:(List (Int×yH)))=>jF (az gb gN).isSome<|aM (l2 (fC [λx:eP=>x.fV]) ((az gb gN).getD [])) λ(tY:yH)=>some (bH gb gN tY)) dH) λ(fI:(List (Int×yH)))=>some (sA.mk fI cH)) (b1,cU)) (([]:List (Int×yH)),([]:List (Int×yH)))
def vu(gH:List (Int×yH))(hV:Int):Option (List (Int×Int)):=
 bif !((az gH hV).isSome)then some []else jn (λ(aj:(List (Int×Int))×(List (Int×Int)))=>match aj with|(b1,cU)=>some b1) λdK=>iV (λ(cI:((List (Int×Int))×(List (Int×Int)))→Option _) (dH,cH)=>bif decide (0<(cH.length:Int))then aM (yT cH (λ(gN:Int) (fx:Int) (iN:Int)=>bif ((decide (iN=0))||((decide (fx<((az cH iN).getD (0:Int))))||((decide (fx=((az cH iN).getD (0:Int))))&&(decide (gN<iN)))))then some gN else some iN) (0:Int)) λ(fI:Int)=>bif decide (((bH dH fI ((az cH fI).getD (0:Int))).length:Int)=(gH.length:Int))then dK (bH dH fI ((az cH fI).getD (0:Int)),pP cH fI)else eE ((az gH fI).getD []) 0 (λ(cf:Int) (e2:eP) (gn:(List (Int×Int))→Option _) (gb:(List (Int×Int)))=>jn (λ(nW:(List (Int×Int)))=>gn nW) λgv=>bif (az (bH dH fI ((az cH fI).getD (0:Int))) e2.fV).isSome then gv gb else bif ((!((az gb e2.fV).isSome))||(decide (aG (((az cH fI).getD (0:Int))+e2.kF)<((az gb e2.fV).getD (0:Int)))))then gv (bH gb e2.fV (aG (((az cH fI).getD (0:Int))+e2.kF)))else gv gb) (λ(gb:(List (Int×Int)))=>cI (bH dH fI ((az cH fI).getD (0:Int)),gb)) (pP cH fI)else dK (dH,cH)) ([],bH [] hV (0:Int))
def FT(t:bz)(hV:Int)(iQ:Int):Option (Int×Bool):=
 aM (yc t) λ(aD:Bool)=>bif !aD then some ((0:Int),false)else aM (CJ t) λ(bB:sA)=>aM (vu bB.mZ hV) λ(cm:(List (Int×Int)))=>some (((az cm iQ).getD (0:Int)),(az cm iQ).isSome)
end
end
section
noncomputable section
def B7(ei:cO):rR:=
 aM (iP ([]:cO) ei) λ(cv:cO)=>some cv
def XW: rR:=
 aM (iP ([]:cO) []) λ(cv:cO)=>some cv
def Oa(s:cO):rR:=B7 s
def BZ(hK:cO)(a:Int)(b:Int)(hE:Int→Int→jO):rR:=
 iV (λ(cI:(Int×(cO))→Option _) (ct,b1)=>bif decide (ct<b)then iV (λ(gn:(Int×(cO))→Option _) (e0,cU)=>jn (λ(fx:Bool)=>bif fx then aM (du cU (aG (e0-1))) λ(oN:Int)=>aM (du cU e0) λ(mN:Int)=>aM (jC cU e0 oN) λ(cv:cO)=>aM (du cv (aG (e0-1))) λ(rI:Int)=>aM (jC cv (aG (e0-1)) mN) λ(fB:cO)=>gn (aG (e0-1),fB)else cI (aG (ct+1),cU)) λdK=>(bif decide (a<e0)then aM (du cU e0) λ(dJ:Int)=>aM (du cU (aG (e0-1))) λ(eo:Int)=>aM (hE dJ eo) λ(aD:Int)=>dK (decide (aD<0))else dK false)) (ct,b1)else some b1) (aG (a+1),hK)
def EL(hK:cO)(a:Int)(b:Int)(n:Int)(hE:Int→Int→jO):rR:=
 jF (decide (n≤9223372036854775807))<|nB (n-0).toNat (0:Int) (λ(a1:Int) (cI:(cO)→Option _) (b1:(cO))=>aM (du b1 (aG (b+(a1:Int)))) λ(dJ:Int)=>aM (du b1 (aG (a+(a1:Int)))) λ(eo:Int)=>aM (jC b1 (aG (a+(a1:Int))) dJ) λ(cv:cO)=>aM (du cv (aG (b+(a1:Int)))) λ(oN:Int)=>aM (jC cv (aG (b+(a1:Int))) eo) λ(fB:cO)=>cI fB) (λ(a1:Int) (b1:(cO))=>some b1) hK
def N7(hK:cO)(a:Int)(m:Int)(b:Int)(hE:Int→Int→jO):rR:=
 iV (λ(cI:(Int×Int×(cO))→Option _) (ct,e0,b1)=>bif !decide (ct=e0)then bif decide (e0<ct)then aM (EL b1 (aG (m-ct)) m e0 hE) λ(aD:(cO))=>cI (aG (ct-e0),e0,aD)else aM (EL b1 (aG (m-ct)) (aG ((aG (m+e0))-ct)) ct hE) λ(bB:(cO))=>cI (ct,aG (e0-ct),bB)else aM (EL b1 (aG (m-ct)) m ct hE) λ(cm:(cO))=>some cm) (aG (m-a),aG (b-m),hK)
def B4:Nat→(cO)→Int→Int→Int→(Int→Int→jO)→rR
 |0,_,_,_,_,_=>none
 |AN+1,hK,a,m,b,hE=>bif decide (aG (m-a)=(1:Int))then iV (λ(cI:(Int×Int)→Option _) (ct,e0)=>bif decide (ct<e0)then aM (du hK (aG (Int.fdiv (IntKind.wrap .u64 (aG (ct+e0))) (2 ^ min (1:Int).toNat 64)))) λ(dJ:Int)=>aM (du hK a) λ(eo:Int)=>aM (hE dJ eo) λ(aD:Int)=>bif decide (aD<0)then cI (aG ((aG (Int.fdiv (IntKind.wrap .u64 (aG (ct+e0))) (2 ^ min (1:Int).toNat 64)))+(1:Int)),e0)else cI (ct,aG (Int.fdiv (IntKind.wrap .u64 (aG (ct+e0))) (2 ^ min (1:Int).toNat 64)))else iV (λ(gn:(Int×(cO))→Option _) (k5,b1)=>bif decide (k5<aG (ct-1))then aM (du b1 (aG (k5+1))) λ(oN:Int)=>aM (du b1 k5) λ(mN:Int)=>aM (jC b1 k5 oN) λ(cv:cO)=>aM (du cv (aG (k5+1))) λ(rI:Int)=>aM (jC cv (aG (k5+1)) mN) λ(fB:cO)=>gn (aG (k5+1),fB)else some b1) (a,hK)) (m,b)else bif decide (aG (b-m)=(1:Int))then iV (λ(lV:(Int×Int)→Option _) (o3,qE)=>bif decide (o3<qE)then aM (du hK m) λ(rJ:Int)=>aM (du hK (aG (Int.fdiv (IntKind.wrap .u64 (aG (o3+qE))) (2 ^ min (1:Int).toNat 64)))) λ(tH:Int)=>aM (hE rJ tH) λ(bB:Int)=>bif !(decide (bB<0))then lV (aG ((aG (Int.fdiv (IntKind.wrap .u64 (aG (o3+qE))) (2 ^ min (1:Int).toNat 64)))+(1:Int)),qE)else lV (o3,aG (Int.fdiv (IntKind.wrap .u64 (aG (o3+qE))) (2 ^ min (1:Int).toNat 64)))else iV (λ(rC:(Int×(cO))→Option _) (rU,cU)=>bif decide (o3<rU)then aM (du cU (aG (rU-1))) λ(vA:Int)=>aM (du cU rU) λ(vB:Int)=>aM (jC cU rU vA) λ(hC:cO)=>aM (du hC (aG (rU-1))) λ(alC:Int)=>aM (jC hC (aG (rU-1)) vB) λ(jZ:cO)=>rC (aG (rU-1),jZ)else some cU) (m,hK)) (a,m)else jn (λ(aj:Int×Int)=>match aj with|(GL,Ez)=>iV (λ(wC:(Int×Int)→Option _) (hD,qj)=>bif decide (hD<qj)then aM (du hK (aG ((aG ((aG ((aG (Int.fdiv (IntKind.wrap .u64 (aG (a+b))) (2 ^ min (1:Int).toNat 64)))+m))-(1:Int)))-(aG (Int.fdiv (IntKind.wrap .u64 (aG (hD+qj))) (2 ^ min (1:Int).toNat 64)))))) λ(Wf:Int)=>aM (du hK (aG (Int.fdiv (IntKind.wrap .u64 (aG (hD+qj))) (2 ^ min (1:Int).toNat 64)))) λ(Wg:Int)=>aM (hE Wf Wg) λ(cm:Int)=>bif !(decide (cm<0))then wC (aG ((aG (Int.fdiv (IntKind.wrap .u64 (aG (hD+qj))) (2 ^ min (1:Int).toNat 64)))+(1:Int)),qj)else wC (hD,aG (Int.fdiv (IntKind.wrap .u64 (aG (hD+qj))) (2 ^ min (1:Int).toNat 64)))else jn (λ(dH:(cO))=>jn (λ(cH:(cO))=>bif ((decide (aG (Int.fdiv (IntKind.wrap .u64 (aG (a+b))) (2 ^ min (1:Int).toNat 64))<aG ((aG ((aG (Int.fdiv (IntKind.wrap .u64 (aG (a+b))) (2 ^ min (1:Int).toNat 64)))+m))-hD)))&&(decide (aG ((aG ((aG (Int.fdiv (IntKind.wrap .u64 (aG (a+b))) (2 ^ min (1:Int).toNat 64)))+m))-hD)<b)))then aM (B4 AN cH (aG (Int.fdiv (IntKind.wrap .u64 (aG (a+b))) (2 ^ min (1:Int).toNat 64))) (aG ((aG ((aG (Int.fdiv (IntKind.wrap .u64 (aG (a+b))) (2 ^ min (1:Int).toNat 64)))+m))-hD)) b hE) λ(eG:(cO))=>some eG else some cH) λkV=>bif ((decide (a<hD))&&(decide (hD<aG (Int.fdiv (IntKind.wrap .u64 (aG (a+b))) (2 ^ min (1:Int).toNat 64)))))then aM (B4 AN dH a hD (aG (Int.fdiv (IntKind.wrap .u64 (aG (a+b))) (2 ^ min (1:Int).toNat 64))) hE) λ(gJ:(cO))=>kV gJ else kV dH) λgv=>bif ((decide (hD<m))&&(decide (m<aG ((aG ((aG (Int.fdiv (IntKind.wrap .u64 (aG (a+b))) (2 ^ min (1:Int).toNat 64)))+m))-hD))))then aM (N7 hK hD m (aG ((aG ((aG (Int.fdiv (IntKind.wrap .u64 (aG (a+b))) (2 ^ min (1:Int).toNat 64)))+m))-hD)) hE) λ(bZ:(cO))=>gv bZ else gv hK) (GL,Ez)) λdK=>bif decide (aG (Int.fdiv (IntKind.wrap .u64 (aG (a+b))) (2 ^ min (1:Int).toNat 64))<m)then dK (aG ((aG ((aG (Int.fdiv (IntKind.wrap .u64 (aG (a+b))) (2 ^ min (1:Int).toNat 64)))+m))-b),aG (Int.fdiv (IntKind.wrap .u64 (aG (a+b))) (2 ^ min (1:Int).toNat 64)))else dK (a,m)
def Ir(hK:cO)(n:Int)(hE:Int→Int→jO):rR:=
 iV (λ(cI:(Int×Int×(cO))→Option _) (Bw,pq,b1)=>bif decide (pq≤n)then aM (BZ b1 Bw pq hE) λ(aD:(cO))=>cI (pq,aG (pq+20),aD)else aM (BZ b1 Bw n hE) λ(bB:(cO))=>iV (λ(gn:(Int×(cO))→Option _) (n0,cU)=>bif decide (n0<n)then iV (λ(lV:(Int×Int×(cO))→Option _) (uG,sv,dH)=>bif decide (sv≤n)then aM (B4 fuel dH uG (aG (uG+n0)) sv hE) λ(cm:(cO))=>lV (sv,aG (sv+(aG ((2:Int)*n0))),cm)else jn (λ(cH:(cO))=>gn (aG (n0*2),cH)) λdK=>bif decide (aG (uG+n0)<n)then aM (B4 fuel dH uG (aG (uG+n0)) n hE) λ(bZ:(cO))=>dK bZ else dK dH) ((0:Int),aG ((2:Int)*n0),cU)else some cU) ((20:Int),bB)) ((0:Int),(20:Int),hK)
def EJ(e5:cO)(hE:Int→Int→jO):rR:=
 aM (Ir e5 (e5.length:Int) hE) λ(aD:(cO))=>some aD
def CC(ay:wu)(root:Int)(xK:Int):Option ((wz)×(wu)):=
 aM (zM ay xK) λ(aD:(List (Int×Int)))=>jF (decide (aD.length≤100000))<|jF (decide ((fW (aD.map Prod.snd)).length≤100000))<|jn (λ(e6:(wz))=>eE ay 0 (λ(e4:Int) (dj:bQ) (lV:(wu)→Option _) (dH:(wu))=>jn (λ(cH:(wu))=>lV cH) λkV=>aM (du dH (e4:Int)) λ(eo:bQ)=>bif (((az aD eo.Hop.br).isSome)&&((az aD eo.Hop.bh).isSome))then aM (jC dH (e4:Int) (bQ.mk eo.Hop (aG (eo.dn-(if(aG ((if((az aD root).getD (0:Int))<((az aD eo.Hop.br).getD (0:Int))then((az aD root).getD (0:Int))else((az aD eo.Hop.br).getD (0:Int)))-(if((az aD root).getD (0:Int))<((az aD eo.Hop.bh).getD (0:Int))then((az aD root).getD (0:Int))else((az aD eo.Hop.bh).getD (0:Int)))))>(0:Int)then aG ((if((az aD root).getD (0:Int))<((az aD eo.Hop.br).getD (0:Int))then((az aD root).getD (0:Int))else((az aD eo.Hop.br).getD (0:Int)))-(if((az aD root).getD (0:Int))<((az aD eo.Hop.bh).getD (0:Int))then((az aD root).getD (0:Int))else((az aD eo.Hop.bh).getD (0:Int))))else(0:Int)))))) λ(hC:wu)=>kV hC else kV dH) (λ(dH:(wu))=>some (e6,dH)) ay) λdK=>eE (hn (fW (aD.map Prod.snd))) 0 (λ(a1:Int) (aK:Int) (cI:(wz)→Option _) (i6:(wz))=>bif decide (((az aD root).getD (0:Int))≤aK)then dK i6 else aM (du (hn (fW (aD.map Prod.snd))) (aG ((a1:Int)+(1:Int)))) λ(dJ:Int)=>jF (decide (aD.length≤100000))<|eE (fW (aD.map Prod.fst)) 0 (λ(cf:Int) (e2:Int) (gn:(cO)→Option _) (b1:(cO))=>jn (λ(cU:(cO))=>gn cU) λgv=>bif decide (((az aD e2).getD (0:Int))≤aK)then aM (iP b1 ([e2]:cO)) λ(cv:cO)=>gv cv else gv b1) (λ(b1:(cO))=>aM (iP i6 ([(cu.mk b1 (aG ((if((az aD root).getD (0:Int))<dJ then((az aD root).getD (0:Int))else dJ)-aK)))]:wz)) λ(fB:wz)=>cI fB) []) (λ(i6:(wz))=>dK i6) []
def Fz(a:Int)(b:Int)(lX:List (Int×Int)):jO:=
 aM (oK ((az lX b).getD (0:Int)) ((az lX a).getD (0:Int))) λ(aD:Int)=>some aD
def Ap(t:bz)(root:Int)(eL:cO):Option ((wz)×Int):=
 aM (ya t root eL) λ(aD:Int)=>bif !decide (aD=0)then some ([],aD)else eE eL 0 (λ(a1:Int) (aK:Int) (cI:(List (Int×Int))→Option _) (b1:(List (Int×Int)))=>aM (FT t root aK) λ(bB:Int×Bool)=>bif !bB.2 then some ([],(9:Int))else cI (bH b1 aK bB.1)) (λ(b1:(List (Int×Int)))=>aM (Oa eL) λ(cm:(cO))=>aM (EJ cm (λ(hH:Int) (j8:Int)=>Fz hH j8 b1)) λ(bZ:(cO))=>aM (AD t) λ(gJ:(wu))=>jn (λ(e6:(wz))=>some (e6,(0:Int))) λdK=>eE bZ 0 (λ(cf:Int) (e2:Int) (gn:((wu)×(wz))→Option _) (xA,i6)=>jn (λ(aj:(wu)×(wz))=>match aj with|(Dx,DG)=>gn (Dx,DG)) λgv=>bif decide (e2=root)then gv (xA,i6)else aM (CC xA root e2) λ(eG:(wz)×(wu))=>bif decide (200<aG ((i6.length:Int)+(eG.1.length:Int)))then dK i6 else aM (iP i6 eG.1) λ(cv:wz)=>gv (eG.2,cv)) (λ(aj:(wu)×(wz))=>match aj with|(xA,i6)=>dK i6) (gJ,[])) []
end
end
section
noncomputable section
def EP(g:sA)(iC:List (Int×Int))(k0:Int):rR:=
 bif !((az iC k0).isSome)then some []else eE ((az g.mZ k0).getD []) 0 (λ(a1:Int) (aK:eP) (cI:(cO)→Option _) (e6:(cO))=>jn (λ(i6:(cO))=>cI i6) λdK=>bif (((az iC aK.fV).isSome)&&(decide (aG (aK.kF+((az iC aK.fV).getD (0:Int)))=((az iC k0).getD (0:Int)))))then aM (iP e6 ([aK.fV]:cO)) λ(cv:cO)=>dK cv else dK e6) (λ(e6:(cO))=>some e6) []
def FA(t:bz)(hV:Int)(iQ:Int):rR:=
 jn (λ(fx:Bool)=>bif fx then some []else aM (CJ t) λ(bB:sA)=>aM (vu bB.w9 iQ) λ(cm:(List (Int×Int)))=>iV (λ(cI:((cO)×Int)→Option _) (e6,A5)=>bif !decide (A5=iQ)then aM (EP bB cm A5) λ(bZ:(cO))=>bif decide ((bZ.length:Int)=(0:Int))then some []else aM (du bZ (0:Int)) λ(dJ:Int)=>aM (iP e6 ([dJ]:cO)) λ(cv:cO)=>aM (du cv (aG ((cv.length:Int)-(1:Int)))) λ(eo:Int)=>cI (cv,eo)else some e6) ([],hV)) λdK=>aM (yc t) λ(aD:Bool)=>(bif !aD then dK true else dK (decide (hV=iQ)))
end
end
section
noncomputable section
def FC(t:bz)(root:Int)(eL:cO):Option (g2×Int):=
 aM (ya t root eL) λ(aD:Int)=>bif !decide (aD=0)then some ((g2.mk (0:Int) []),aD)else eE eL 0 (λ(a1:Int) (aK:Int) (cI:(List (bO×Bool))→Option _) (b1:(List (bO×Bool)))=>aM (FA t root aK) λ(bB:(cO))=>bif ((!decide (aK=root))&&(decide ((bB.length:Int)=(0:Int))))then some ((g2.mk (0:Int) []),(9:Int))else eE bB 0 (λ(cf:Int) (e2:Int) (gn:(Int×(List (bO×Bool)))→Option _) (sX,cU)=>gn (e2,nS p8 cU (bO.mk sX e2) true)) (λ(aj:Int×(List (bO×Bool)))=>match aj with|(sX,cU)=>cI cU) (root,b1)) (λ(b1:(List (bO×Bool)))=>jF (decide (b1.length≤100000))<|aM (l2 (fC [λx:bO=>x.br,λx:bO=>x.bh]) (b1.map Prod.fst)) λ(cv:x2)=>some ((g2.mk root cv),(0:Int))) []
end
end
end
section
open Go Go.Proofs.Tryz List
set_option maxRecDepth 100000
set_option linter.all false
def Au{n:Int}{r:Bool}(hm:F0 n=some r):dR prog 147 [] [Y n] (.bool r):=by
 refine dN func147 rfl rfl ?_;unfold F0 at hm;refine bl [] [(0,Y n)] []<|avM [(2,.bool ((decide (1≤n))&&(decide (n≤1000))))] [] (λhk=>?_) ?_
 ·rcases j6 (decide (1≤n))with bk|bk
  ·exact bl [(2,aN (cK bk)),(6,aN (mE (q:=decide (n≤1000)) bk))] _ _ hk
  exact bl [(2,aN (cK bk)),(6,aN (pa (q:=decide (n≤1000)) bk))] _ _ hk
 cases hm;exact A.ret cM
def Jx{t:bz}{oj:Int}{r:Bool}(hm:Az t oj=some r):dR prog 148 [] [.agg (cn t),Y oj] (.bool r):=by
 refine dN func148 rfl rfl ?_;unfold Az at hm;refine bl [(0,.al 80)] [(1,Y oj),(2,.ptr 80 0)] [(80,.cells 28 (cn t))]<|A.seq<|aW [] [] [(5,Y 0)]<|A.block<|avW 2 0 rfl rfl rfl λfu=>?_
 obtain⟨gU,gV,gK,gL,hm⟩:=hJ hm;refine avD (l:=t.bx) (gC:=0) (B:=gU) (K:=gV) hm (λa1=>λ()=>[(1,Y oj),(2,.ptr 80 0),(5,Y a1)]) (λa1=>λ()=>[(80,.cells 28 (cn t))]) ?_ ?_ ?_
 ·exact fN
 ·rintro a1 aK cI ⟨⟩ gM cr hm;rw[gK]at hm;refine A.seq<|aW [(3,aN (dZ eD t.bx))] [] [(10,.d ((a1:Int)<t.bx.length))] ?_
  refine bX (hv cr)<|A.skip<|A.seq<|A.block<|aW [(3,c8 (ix eD (fS cr)))] [10] [(20,.d (aK.cS=oj))] ?_
  rcases cg hm with⟨bk,hm⟩|⟨bk,hm⟩
  ·refine bX bk<|bl [] [(4,.bool true)] [] ?_
   cases hm;exact A.ret cM
  exact bW bk<|A.skip<|dF [(1,aN (hg cr fu))] [5,20] [(5,Y ((a1+1:Nat):Int))]<|cF () hm
 rintro a1 ⟨⟩ gM fv hm;rw[gL]at hm;refine A.seq<|aW [(3,aN (dZ eD t.bx))] [] [(10,.d ((a1:Int)<t.bx.length))] ?_
 refine bW (ht fv)<|A.exit<|bl [] [(4,.bool false)] [] ?_
 cases hm;exact A.ret cM
def Yk{t:bz}{r:Int}(hm:FU t=some r):dR prog 77 [] [.agg (cn t)] (Y r):=by
 refine dN func77 rfl rfl ?_;unfold FU at hm;refine bl [(0,.al 21)] [(1,.ptr 21 0)] [(21,.cells 28 (cn t))]<|A.seq<|avM [(1,.ptr 21 0),(21,.bool ((decide (24<(t.bx.length:Int)))||(decide (60<(t.Links.length:Int)))))] [(21,.cells 28 (cn t))] (λhk=>?_) ?_
 ·rcases j6 (decide (24<(t.bx.length:Int)))with bk|bk
  ·exact bl [(2,aN (dZ eD t.bx)),(4,aN (cK bk)),(9,aN (tb (q:=decide (60<(t.Links.length:Int))) bk))] _ _ hk
  exact bl [(2,aN (dZ eD t.bx)),(4,aN (cK bk)),(7,aN (dZ fe t.Links)),(9,aN (mc (q:=decide (60<(t.Links.length:Int))) bk))] _ _ hk
 rcases cg hm with⟨bK,hm⟩|⟨bK,hm⟩
 ·refine bX bK<|bl [] [(2,Y 3)] [] ?_
  cases hm;exact A.ret cM
 refine bW bK<|A.skip<|A.seq<|aW [] [21] [(3,Y 0)]<|A.block<|avW 1 0 rfl rfl rfl λfu=>?_
 obtain⟨gU,gV,gK,gL,hm⟩:=hJ hm;refine avD (l:=t.bx) (gC:=0) (B:=gU) (K:=gV) hm (λa1=>λ()=>[(1,.ptr 21 0),(3,Y a1)]) (λa1=>λ()=>[(21,.cells 28 (cn t))]) ?_ ?_ ?_
 ·exact fN
 ·rintro a1 aK cI ⟨⟩ gM cr hm;rw[gK]at hm;refine A.seq<|aW [(3,aN (dZ eD t.bx))] [] [(26,.d ((a1:Int)<t.bx.length))] ?_
  refine bX (hv cr)<|A.skip<|A.seq<|A.block<|avM [(1,.ptr 21 0),(3,Y a1),(44,.bool ((decide (aK.cS<1))||(decide (99<aK.cS))))] [(21,.cells 28 (cn t))] (λhk=>?_) ?_
  ·rcases j6 (decide (aK.cS<1))with cq|cq
   ·exact bl [(3,c8 (ix eD (fS cr))),(7,aN (cK cq)),(15,aN (tb (q:=decide (99<aK.cS)) cq))] _ _ hk
   exact bl [(3,c8 (ix eD (fS cr))),(7,aN (cK cq)),(11,c8 (ix eD (fS cr))),(15,aN (mc (q:=decide (99<aK.cS)) cq))] _ _ hk
  rcases cg hm with⟨en,hm⟩|⟨en,hm⟩
  ·refine bX en<|bl [] [(2,Y 2)] [] ?_
   cases hm;exact A.ret cM
  exact bW en<|A.skip<|dF [(1,aN (hg cr fu))] [3,44] [(3,Y ((a1+1:Nat):Int))]<|cF () hm
 rintro a1 ⟨⟩ gM fv hm;rw[gL]at hm;refine A.seq<|aW [(3,aN (dZ eD t.bx))] [] [(26,.d ((a1:Int)<t.bx.length))] ?_
 refine bW (ht fv)<|A.exit<|A.seq<|aW [] [3,26] [(4,Y 1)]<|A.block<|avW 1 0 rfl rfl rfl λeO=>?_
 obtain⟨k8,jm,ll,lz,hm⟩:=hJ hm;refine avD (l:=t.bx) (gC:=1) (B:=k8) (K:=jm) hm (λcf=>λ()=>[(1,.ptr 21 0),(4,Y cf)]) (λcf=>λ()=>[(21,.cells 28 (cn t))]) ?_ ?_ ?_
 ·exact fN
 ·rintro cf e2 gn ⟨⟩ jb eW hm;rw[ll]at hm;refine A.seq<|aW [(3,aN (dZ eD t.bx))] [] [(49,.d ((cf:Int)<t.bx.length))] ?_
  refine bX (hv eW)<|A.skip<|A.seq<|A.block ?_
  obtain⟨dJ,h1,hm⟩:=bo hm;refine aW [(4,c8 (ix eD h1)),(10,c8 (ix eD (fS eW)))] [49] [(65,.d (e2.cS≤dJ.cS))] ?_;rcases cg hm with⟨fK,hm⟩|⟨fK,hm⟩
  ·refine bX fK<|bl [] [(2,Y 25)] [] ?_
   cases hm;exact A.ret cM
  exact bW fK<|A.skip<|dF [(1,aN (hg eW eO))] [4,65] [(4,Y ((cf+1:Nat):Int))]<|cF () hm
 rintro cf ⟨⟩ jb jE hm;rw[lz]at hm;refine A.seq<|aW [(3,aN (dZ eD t.bx))] [] [(49,.d ((cf:Int)<t.bx.length))] ?_
 refine bW (ht jE)<|A.exit<|A.seq<|aW [] [4,49] [(5,Y 0)]<|A.block<|avW 1 1 rfl rfl rfl λp0=>?_
 obtain⟨sp,sr,sE,sF,hm⟩:=hJ hm;refine avD (l:=t.Links) (gC:=0) (B:=sp) (K:=sr) hm (λe4=>λ()=>[(1,.ptr 21 0),(5,Y e4)]) (λe4=>λ()=>[(21,.cells 28 (cn t))]) ?_ ?_ ?_
 ·exact fN
 ·rintro e4 dj lV ⟨⟩ py lC hm;rw[sE]at hm;refine A.seq<|aW [(3,aN (dZ fe t.Links))] [] [(70,.d ((e4:Int)<t.Links.length))] ?_
  refine bX (hv lC)<|A.skip<|A.seq<|A.block<|et [(3,c8 (ix fe (fS lC))),(5,.al 178)] [70] [(6,.ptr 178 0)] [] [(178,.cells 62 (gy dj))] ?_
  obtain⟨dK,iH,hm⟩:=jd hm;refine A.J (J:=dK) (r:=r) (λfx=>[(1,.ptr 21 0),(5,Y e4),(97,.bool fx)]) (λfx=>[(21,.cells 28 (cn t))]) ?_ ?_
  ·obtain⟨aD,D,hm⟩:=bo hm;rcases cg hm with⟨hj,hm⟩|⟨hj,hm⟩
   ·exact jl [(2,ch (Au D) Bc),(4,aN (cK hj))] [6] [(97,.bool true)] [178] []<|cF true hm
   obtain⟨bB,aq,hm⟩:=bo hm;rcases cg hm with⟨jU,hm⟩|⟨jU,hm⟩
   ·exact jl [(2,ch (Au D) Bc),(4,aN (cK hj)),(7,ch (Au aq) Bc),(10,aN (cK jU))] [6] [(97,.bool true)] [178] []<|cF true hm
   rcases cg hm with⟨lI,hm⟩|⟨lI,hm⟩
   ·exact jl [(2,ch (Au D) Bc),(4,aN (cK hj)),(7,ch (Au aq) Bc),(10,aN (cK jU)),(15,aN (cK lI))] [6] [(97,.bool true)] [178] []<|cF true hm
   exact jl [(2,ch (Au D) Bc),(4,aN (cK hj)),(7,ch (Au aq) Bc),(10,aN (cK jU)),(15,aN (cK lI))] [6] [(97,.d (1000<dj.xq))] [178] []<|cF (decide (1000<dj.xq)) hm
  rintro fx hm;rw[iH]at hm;rcases cg hm with⟨lW,hm⟩|⟨lW,hm⟩
  ·refine bX lW<|bl [] [(2,Y 2)] [] ?_
   cases hm;exact A.ret cM
  exact bW lW<|A.skip<|dF [(1,aN (hg lC p0))] [5,97] [(5,Y ((e4+1:Nat):Int))]<|cF () hm
 rintro e4 ⟨⟩ py np hm;rw[sF]at hm;refine A.seq<|aW [(3,aN (dZ fe t.Links))] [] [(70,.d ((e4:Int)<t.Links.length))] ?_
 refine bW (ht np)<|A.exit<|A.seq<|aW [] [5,70] [(7,Y 0)]<|A.block<|avW 1 1 rfl rfl rfl λEZ=>?_
 obtain⟨D1,D4,EU,EY,hm⟩:=hJ hm;refine avD (l:=t.Links) (gC:=0) (B:=D1) (K:=D4) hm (λkR=>λ()=>[(1,.ptr 21 0),(7,Y kR)]) (λkR=>λ()=>[(21,.cells 28 (cn t))]) ?_ ?_ ?_
 ·exact fN
 ·rintro kR fF rC ⟨⟩ E5 o2 hm;rw[EU]at hm;refine A.seq<|aW [(3,aN (dZ fe t.Links))] [] [(102,.d ((kR:Int)<t.Links.length))] ?_
  refine bX (hv o2)<|A.skip<|A.seq<|A.block ?_
  obtain⟨gv,jt,hm⟩:=jd hm;refine A.J (J:=gv) (r:=r) (λnE=>[(1,.ptr 21 0),(7,Y kR),(124,.bool nE)]) (λnE=>[(21,.cells 28 (cn t))]) ?_ ?_
  ·obtain⟨cm,aZ,hm⟩:=bo hm;rcases cg hm with⟨mw,hm⟩|⟨mw,hm⟩
   ·exact dF [(4,c8 (ix fe (fS o2))),(7,ch (Jx aZ) HI),(9,aN (cK mw))] [102] [(124,.bool true)]<|cF true hm
   obtain⟨bZ,bV,hm⟩:=bo hm;exact dF [(4,c8 (ix fe (fS o2))),(7,ch (Jx aZ) HI),(9,aN (cK mw)),(14,c8 (ix fe (fS o2))),(17,ch (Jx bV) HI)] [102] [(124,.bool (!bZ))]<|cF (!bZ) hm
  rintro nE hm;rw[jt]at hm;rcases cg hm with⟨uH,hm⟩|⟨uH,hm⟩
  ·refine bX uH<|bl [] [(2,Y 4)] [] ?_
   cases hm;exact A.ret cM
  exact bW uH<|A.skip<|dF [(1,aN (hg o2 EZ))] [7,124] [(7,Y ((kR+1:Nat):Int))]<|cF () hm
 rintro kR ⟨⟩ E5 Cq hm;rw[EY]at hm;refine A.seq<|aW [(3,aN (dZ fe t.Links))] [] [(102,.d ((kR:Int)<t.Links.length))] ?_
 refine bW (ht Cq)<|A.exit<|A.seq<|aW [] [7,102] [(8,Y 0)]<|A.block<|avW 1 1 rfl rfl rfl λamn=>?_
 obtain⟨KS,KY,M8,Nf,hm⟩:=hJ hm;refine avD (l:=t.Links) (gC:=0) (B:=KS) (K:=KY) hm (λkS=>λ()=>[(1,.ptr 21 0),(8,Y kS)]) (λkS=>λ()=>[(21,.cells 28 (cn t))]) ?_ ?_ ?_
 ·exact fN
 ·rintro kS g3 wC ⟨⟩ ND Al hm;rw[M8]at hm;refine A.seq<|aW [(3,aN (dZ fe t.Links))] [] [(129,.d ((kS:Int)<t.Links.length))] ?_
  refine bX (hv Al)<|A.skip<|A.seq<|A.block<|aW [(3,c8 (ix fe (fS Al))),(9,c8 (ix fe (fS Al)))] [129] [(144,.d (g3.B≤g3.A))] ?_
  rcases cg hm with⟨qU,hm⟩|⟨qU,hm⟩
  ·refine bX qU<|bl [] [(2,Y 8)] [] ?_
   cases hm;exact A.ret cM
  exact bW qU<|A.skip<|dF [(1,aN (hg Al amn))] [8,144] [(8,Y ((kS+1:Nat):Int))]<|cF () hm
 rintro kS ⟨⟩ ND NI hm;rw[Nf]at hm;refine A.seq<|aW [(3,aN (dZ fe t.Links))] [] [(129,.d ((kS:Int)<t.Links.length))] ?_
 refine bW (ht NI)<|A.exit<|A.seq<|aW [] [8,129] [(9,Y 1)]<|A.block<|avW 1 1 rfl rfl rfl λamo=>?_
 obtain⟨KT,KZ,M9,Ng,hm⟩:=hJ hm;refine avD (l:=t.Links) (gC:=1) (B:=KT) (K:=KZ) hm (λmo=>λ()=>[(1,.ptr 21 0),(9,Y mo)]) (λmo=>λ()=>[(21,.cells 28 (cn t))]) ?_ ?_ ?_
 ·exact fN
 ·rintro mo jy Eb ⟨⟩ NF Cy hm;rw[M9]at hm;refine A.seq<|aW [(3,aN (dZ fe t.Links))] [] [(149,.d ((mo:Int)<t.Links.length))] ?_
  refine bX (hv Cy)<|A.skip<|A.seq<|A.block ?_
  obtain⟨eo,dU,hm⟩:=bo hm;refine et [(4,c8 (ix fe dU)),(9,c8 (ix fe (fS Cy))),(11,.al 179),(12,.al 180)] [149] [(10,.ptr 179 0),(11,.ptr 180 0)] [] [(179,.cells 62 (gy eo)),(180,.cells 62 (gy jy))]<|avM [(1,.ptr 21 0),(9,Y mo),(181,.bool ((decide (jy.A<eo.A))||((decide (eo.A=jy.A))&&(decide (jy.B≤eo.B)))))] [(21,.cells 28 (cn t))] (λhk=>?_) ?_
  ·rcases j6 (decide (jy.A<eo.A))with qV|qV
   ·exact bl [(5,aN (cK qV)),(18,aN (tb (q:=((decide (eo.A=jy.A))&&(decide (jy.B≤eo.B)))) qV))] _ _ hk
   rcases j6 (decide (eo.A=jy.A))with uI|uI
   ·exact bl [(5,aN (cK qV)),(11,aN (cK uI)),(18,aN ((mE (q:=decide (jy.B≤eo.B)) uI).trans (mc (q:=((decide (eo.A=jy.A))&&(decide (jy.B≤eo.B)))) qV)))] _ _ hk
   exact bl [(5,aN (cK qV)),(11,aN (cK uI)),(18,aN ((pa (q:=decide (jy.B≤eo.B)) uI).trans (mc (q:=((decide (eo.A=jy.A))&&(decide (jy.B≤eo.B)))) qV)))] _ _ hk
  rcases cg hm with⟨zD,hm⟩|⟨zD,hm⟩
  ·refine bX zD<|bl [] [(2,Y 25)] [] ?_
   cases hm;exact A.ret cM
  exact bW zD<|A.skip<|dF [(1,aN (hg Cy amo))] [9,181] [(9,Y ((mo+1:Nat):Int))]<|cF () hm
 rintro mo ⟨⟩ NF NJ hm;rw[Ng]at hm;refine A.seq<|aW [(3,aN (dZ fe t.Links))] [] [(149,.d ((mo:Int)<t.Links.length))] ?_
 refine bW (ht NJ)<|A.exit<|bl [] [(2,Y 0)] [] ?_
 cases hm;exact A.ret cM
end
section
open Go Go.Proofs.Tryz List
set_option maxRecDepth 100000
set_option linter.all false
def OH{t:bz}{oj:Int}{r:Bool}(hm:yC t oj=some r):dR prog 79 [] [.agg (cn t),Y oj] (.bool r):=by
 refine dN func79 rfl rfl ?_;unfold yC at hm;refine bl [(0,.al 181)] [(1,Y oj),(2,.ptr 181 0)] [(181,.cells 28 (cn t))] ?_;obtain⟨aD,h1,hm⟩:=bo hm;rcases cg hm with⟨bk,hm⟩|⟨bk,hm⟩
 ·obtain⟨bB,D,hm⟩:=bo hm;refine bl [(1,ch (Yk h1) Wz),(3,aN (cK bk)),(6,ch (Jx D) HI)] [(4,.bool bB)] [] ?_;cases hm;exact A.ret cM
 refine bl [(1,ch (Yk h1) Wz),(3,aN (cK bk))] [(4,.bool false)] [] ?_;cases hm;exact A.ret cM
end
end Go.Proofs.YtmnbolcmepihlaaGreat
