/- A part of the proof; the last text says of what. No condition but those that stand in each. -/
import Derived.Test.YtmnbolcmepihlaaGreatZ2
import Derived.Shelf.Spec.SlicesInsertGrow
import Derived.Test.YtmnbolcmepihlaaGreatAC
import Derived.Test.YtmnbolcmepihlaaGreatZ1
namespace Go.Proofs.YtmnbolcmepihlaaGreat
section
set_option linter.all false
open Go
section
section
def bX.row{I u:a2}(bA:bM I u){b:Nat}:∀(cs:List U) (vs:c4) (o:Nat),bX I cs vs->(∀j,j<vs.length->u b ((o+j:Nat):fV)=vs[j]?)->gy u b cs o
 |[],_,_,_,_=>by simp[gy]
 |x::r,vs,o,h,D=>by
  simp only[bX]at h;obtain⟨au,O,rfl,Q,F⟩:=h;simp only[gy];refine⟨⟨au,?_,hD bA _ _ Q⟩,bX.row bA r O (o+1) F λj X=>?_⟩
  .have:=D 0 (by simp);simpa using this
  .have:=D (j+1) (by simp;omega);rw[show o+1+j=o+(j+1)by omega];simpa using this
def avy{G:bQ}{env:ah}{σ:W}(t C:Nat){T:Nat}{cs:List U}(F:env.get t=.ptr C 0)(v:σ.get C=some (.cells T cs))(Q:ha cs=true):bJ G env σ ((t,.dF cs)::env) (σ.minus [C]):=by
 intro ab g E aa ae c u;have l:=c.b5 C _ v;simp only[bb]at l;have n:=u t;rw[F]at n;simp only[az]at n;obtain⟨X,i,S⟩:=n;rcases l with m|⟨d,h,J,K,H,I,N⟩
 .rw[m]at i;simp[bE]at i
 .have P:d=X:=by rw[J]at i;simpa [bE]using i
  subst P
  let k:a2:=g.on λa o=>if a=d then h[o]? else g a o
  have bA:bM g k:=λa o j e=>by
   cases o with
   |none=>exact e
   |some o=>
   show(if a=d then h[o]? else g a o)=some j;split
   .rename_i p;subst p;rw[I]at e;cases e
   .exact e
  have z:∀a o,a≠d->k a o=g a o:=λa o r=>by
   cases o with
   |none=>rfl
   |some o=>
   show(if a=d then h[o]? else g a o)=_;rw[if_neg r]
  have w:∀b o,(σ.minus [C]).get b=some o->b≠C/\σ.get b=some o:=λb o f=>by
   rw[avc]at f;split at f
   .cases f
   .rename_i Y;exact⟨by simpa using Y,f⟩
  have A:∀b,((σ.minus [C]).get b).isSome->(σ.get b).isSome:=λb f=>by
   obtain⟨o,l⟩:=Option.isSome_iff_exists.1 f;rw[(w b o l).2];rfl
  have O:gy k d cs 0:=bX.row bA cs h.toList 0 (BM Q H) λD Z=>by
   show(if d=d then h[0+D]? else g d (some (0+D)))=_;rw[if_pos rfl];simp
  refine⟨k,E,{good:=λa o j e=>?_,eD:=c.eD,fK:=λa o j e=>bA _ _ _ (c.fK _ _ _ e),fB:=λa q y o=>?_,frame:=c.frame,size:=c.size,tape:=c.tape,os:=c.os,output:=c.output,drawn:=c.drawn,b5:=λb o f=>?_,cA:=λb B f M=>c.cA b B (A b f) (A B M),keep:=c.keep},λV=>?_⟩
  .change (if a=d then h[o]? else g a o)=some j at e
   split at e
   .rename_i p;subst p;simp only[World.cell?,K];simpa using e
   .exact c.good a o j e
  .have r:a≠d:=λs=>by
    subst s;rcases N with m|m
    .omega
    .exact y m
   rw[z a o r];exact c.fB a q y o
  .obtain⟨R,x⟩:=w b o f;refine(c.b5 b o x).AV bA z λa q L=>?_;subst L;exact c.cA b C (by rw[x];rfl) (by rw[v];rfl) R a q (gv i)
  .rw[avb];split
   .rename_i s;subst s
    simp only[az,aN];exact⟨d,0,S,O⟩
   .exact(u.mono bA (en.refl E)) V
end
section
variable {G:bQ}{o:Oper}{ev:Operand->U}{σ:W}
end
section
variable {P:Program}
def Yields.cW{G:bQ}{o:Oper}{ev:Operand->U}{σ:W}{cw R:cg}{f:Nat}{l:List U}(h:Yields G o ev σ cw R (.fn f l))(af:ha l=true):Yields G o ev σ cw R (.cW f l):=λQ cx I β w X ae ab ag hop=>by
 have:=h Q cx I β w X ae ab ag hop;generalize (execOp X o).run G.P w=r at this
 have key:∀v w',(∃u D,az u D (.fn f l) v/\bG G cx u D Q w'/\bM I u/\(∀d,d∉cw->D d=β d))->∃u D,az u D (.cW f l) v/\bG G cx u D Q w'/\bM I u/\(∀d,d∉cw->D d=β d):=λv w' ⟨u,D,F,O⟩=>by
  simp only[az]at F;obtain⟨vs,rfl,aa⟩:=F;exact⟨u,D,by simp only[az,aN];exact⟨vs,rfl,BM af aa⟩,O⟩
 cases r with
 |halt x w'=>exact this.elim
 |ok n w'=>cases n with
  |value v=>exact key _ _ this
  |skip=>exact key _ _ this
  |enter f args=>exact Calls.mono this λe ai ⟨v,F,O⟩=>⟨v,F,key _ _ O⟩
  |_=>exact this.elim
def AK(op:Op)(env:ah):Option (bP×bL):=match op with
 |.makeFunc (.func f) first aR=>match first.toList with
  |[]=>(match env.iS aR.toList with
   |some l=>bif ha l then some (.y [] (.cW f l),([],[]))else none
   |_=>none)
  |_=>none
 |_=>none
def NH{o:Oper}{N:Nat}{ids:cg}{env:ah}{σ:W}{s:bP}{b:bL}(a:AK o.op env=some (s,b)):c7 ⟨P,N,ids⟩ o env σ s:=by
 unfold AK at a;split at a
 .rename_i h first aR d;split at a
  .rename_i c;split at a
   .rename_i i e;obtain⟨f,⟨⟩⟩:=dG a;have g:first=#[]:=by simpa using congrArg List.toArray c
    subst g;exact Yields.cW (bf.makeFunc d e) f
   .cases a
  .cases a
 .cases a
def r1:Hint P:=.gs false ([],[]) (λ_ c a _=>AK c a) λ_ _ _ _ _ _ _ b _=>NH b
end
end
section
section
variable {G:bQ}{σ:W}{o:Oper}{ev:Operand->U}
variable {I:a2}{T t:Nat}{cx:c2}{w:World}{β:Nat->Value}
def E9(f:bG G cx I β σ w){d:Nat}{xs:List (List U)}(g:σ.get d=some (.eR T xs t))(h:β d≠.nilFunc):
  ∃b aR a,β d=.slice (some ⟨b,0,none⟩) (xs.length+1) aR/\xs.length+1<=aR/\aR<=maxLen/\w.heap[b]?=some (.cells a T (0,0))/\a.size=aR/\
    bX I xs.flatten (a.toList.take xs.length)/\(∀e∈xs,e.length=1)/\a[xs.length]?=some (β t)/\β t≠.nilFunc/\(∀o:Nat,I b o=none)/\Place cx b:=by
 have c:=f.b5 d _ g;simp only[bb,h,false_or]at c;exact c
variable {E SA:Nat}
def awO{d:Nat}{xs:List (List U)}{x y:Operand}{k:IntKind}{i:Int}(c:o.op=.indexAddr T x y)(l:ev x=.own d)(m:ev y=.int k i)(r:σ.get d=some (.eR SA xs t))(g:g8 G.P T E 1)
  (hi:0<=i/\i<(xs.length:Int)+1):Yields G o ev σ [] [d] (.ptr d i.toNat):=
 .pure λD cx I β w A p n j=>by
  have a:=j x (by simp[c,Op.operands]);rw[l]at a
  have b:=j y (by simp[c,Op.operands]);rw[m]at b;have b:=fW b
  simp only[az]at a;obtain⟨a,f⟩:=a;have q:β d≠.nilFunc:=λv=>by rw[a,v]at f;simp[fA]at f
  obtain⟨h,aR,H,e,F,B,C,_⟩:=E9 n (by rw[p d (by simp)];exact r) q;refine⟨.pointer (some ⟨h,i.toNat,none⟩),?_,by simp only[az];exact⟨h,by rw[e];rfl,rfl⟩⟩;have z:∀w,(underlying T).run G.P w=.ok (.slice E) w:=λw=>by simp[underlying,program,Sem.run,g.ee]
  rw[e]at a;have s:0<=i/\i<(xs.length:Int)+1:=hi;have u:¬((xs.length:Int)+1<=i):=by omega
  simp[u,execOp,c,a,b,Instr.indexAt,asIntOf,z,s,g.size,g2]
variable {p:Nat}
def DC(i:bG G cx I β σ w){d:Nat}{xs:List (List U)}(r:σ.get d=some (.eR T xs t)){v:Value}(a:az I β (.ptr d p) v):
  ∃b c,v=.pointer (some ⟨b,p,none⟩)/\w.heap[b]?=some (.cells c T (0,0))/\bX I xs.flatten (c.toList.take xs.length)/\(∀e∈xs,e.length=1)/\c[xs.length]?=some (β t)/\β t≠.nilFunc/\xs.length+1<=c.size:=by
 simp only[az]at a;obtain⟨b,a,g⟩:=a;have o:β d≠.nilFunc:=λe=>by rw[e]at a;cases a
 obtain⟨f,aR,c,j,u,s,h,x,k,m,n,l,y,z⟩:=E9 i r o;have q:f=b:=by rw[j]at a;simpa [bE]using a
 subst q;exact⟨f,c,g,h,k,m,n,l,by omega⟩
def b1.AA:b1->Bool
 |.map ..=>true
 |.er ..=>true
 |_=>false
def awP{d:Nat}{xs:List (List U)}{x:Operand}{c:b1}(i:o.op=.load T x)(l:ev x=.ptr d p)(v:σ.get d=some (.eR SA xs t))(r:p=xs.length)(n:σ.get t=some c)(B:c.AA=true)(z:dN G.P T 1 false):
  Yields G o ev σ [] [d,t] (.cc t):=
 .pure λH cx I β w F g f C=>by
  have j:=C x (by simp[i,Op.operands]);rw[l]at j
  obtain⟨A,M,m,q,J,L,s,h,K⟩:=DC f (by rw[g d (by simp)];exact v) j
  have u:∀a,a<1->∃k,[β t][a]?=some k/\w.cell? ⟨A,p+a,none⟩=some k:=λa E=>by
   have:a=0:=by omega
   subst this;exact⟨β t,rfl,by subst r;simp[World.cell?,q,s]⟩
  have y:=m9 z (vs:=[β t]) u (λ_=>by omega);refine⟨β t,by simp[execOp,i,m,Instr.loadAt,Instr.sureAddr,y],?_⟩;simp only[az,true_and];have b:=f.b5 t c (by rw[g t (by simp)];exact n);cases c<;>simp only[b1.AA,reduceCtorEq]at B
  .simp only[bb,h,false_or]at b;obtain⟨D,_,_,e,_⟩:=b;rw[e];rfl
  .simp only[bb,h,false_or]at b;obtain⟨D,e,_⟩:=b;rw[e];rfl
def DD:∀{xs:List (List U)} {p:Nat} {a:U},(∀e∈xs,e.length=1)->xs[p]?=some [a]->xs.flatten[p]?=some a
 |[],_,_,_,h=>by simp at h
 |e::r,p,a,b,h=>by
  obtain⟨c,rfl⟩:∃c,e=[c]:=List.length_eq_one_iff.1 (b e (by simp));cases p with
  |zero=>simp at h;subst h;rfl
  |succ p=>simp only[List.flatten_cons,List.singleton_append,List.getElem?_cons_succ]at h ⊢;exact DD (λe d=>b e (by simp[d])) h
theorem awQ{d:Nat}{xs:List (List U)}{x:Operand}{a:U}(g:o.op=.load T x)(i:ev x=.ptr d p)(v:σ.get d=some (.eR SA xs t))(e:xs[p]?=some [a])(z:dN G.P T 1 false):
  Yields G o ev σ [] [d] a:=
 .pure λF cx I β w E q l C=>by
  have h:=C x (by simp[g,Op.operands]);rw[i]at h
  obtain⟨B,A,j,k,m,r,L,K,J⟩:=DC l (by rw[q d (by simp)];exact v) h;obtain⟨c,H,n⟩:=xY (β:=β) (bX.rep β _ _ m) (DD r e);have M:p<xs.length:=(List.getElem?_eq_some_iff.1 e).1;have s:A[p]?=some c:=by grind
  have u:∀b,b<1->∃f,[c][b]?=some f/\w.cell? ⟨B,p+b,none⟩=some f:=λb D=>by
   have:b=0:=by omega
   subst this;exact⟨c,rfl,by simp[World.cell?,k,s]⟩
  have y:=m9 z (vs:=[c]) u (λ_=>by omega);exact⟨c,by simp[execOp,g,j,Instr.loadAt,Instr.sureAddr,y],n⟩
theorem axp{s x:Operand}{bytes d d2 p aM aV:Nat}{bK:Bool}{xs:List (List U)}(m:o.op=.call ⟨.builtin .append,#[s,x],#[T,T]⟩)(ba:ev s=.own d)(ax:σ.get d=some (.slice aM 1 xs 0 bK))(a:ev x=.dr (.pU 1) p)(cS:σ.get p=some (.cells aV [.cc t]))(N:gO G.P T E 1 bytes)(a7:aM=E)
  (af:(xs.length+1)*bytes<=140737488355328) (aD:xs.length+1<=maxLen) (hi:G.ids.contains d2=false)
  (aC:(σ.minus [d]).clean [d2].contains=true) (br:p≠d) (cb:t≠d) :
  eL G o ev σ [d,d2] [d2] (λr B=>r=.own d2/\B=(d2,.eR aM xs t)::σ.minus [d]):=by
 subst a7;intro cx I β w Q h a0;have dM:=a0 s (by simp[m,Op.operands,Call.operands]);rw[ba]at dM;simp only[az]at dM;obtain⟨dM,c0⟩:=dM;have k:=a0 x (by simp[m,Op.operands,Call.operands]);rw[a]at k;simp only[az]at k;obtain⟨n,L,k⟩:=k;have k:Q x=.slice (some ⟨n,0,none⟩) 1 1:=k;obtain⟨Z,ab,S,ar,u,aw,bj⟩:=N.info;have bv:(σ.minus [d]).get p=some (.cells aV [.cc t]):=by rw[avc,if_neg (by simpa using br)];exact cS
 have aX:t≠d2:=λf=>by
  have:=(au8 aC p _ bv).2;simp[ho,iN,U.refs,f]at this
 have O:w.cell? ⟨n,0,none⟩=some (β t)/\hd (β t)=true:=by
  have bu:β p≠.nilFunc:=λf=>by rw[f]at L;cases L
  have A:=h.b5 p _ cS;simp only[bb,bu,false_or]at A;obtain⟨b,c,C,ag,F,_⟩:=A;have:b=n:=by rw[C]at L;simpa [bE]using L
  subst this;simp only[bx,az]at F;obtain⟨y,bL,bA,⟨bD,ak⟩,a6⟩:=F;subst a6;have:c[0]?=some y:=by
   have:c.toList[0]?=some y:=by rw[bA];rfl
   simpa using this
  rw[bD]at this ak;exact⟨by simp[World.cell?,ag,this],ak⟩
 have aG:β t≠.nilFunc:=λf=>by rw[f]at O;simp[hd]at O
 have a9:∀e∈[β t],e.oneCell'=true:=λe g=>by
  rw[List.mem_singleton.1 g];have:=O.2;cases bk:β t<;>rw[bk]at this<;>simp[hd]at this<;>rfl
 have aB:xs.length+1<=9223372036854775807:=by simp only[maxLen]at aD;omega
 have aE:bG G cx I β (σ.minus [d]) w:=h.sub λx q a=>by rw[avc]at a;split at a<;>first|cases a|exact a
 have bg:=aE.jE (cw:=[d2]) (σ2:=(d2,.eR aM xs t)::σ.minus [d]) (env:=[]) ⟨λx a=>by rw[auU,if_neg (λf=>a (by simp[f]))],λx a=>by simp at a;subst a;simpa using hi,rfl,aC,λx a cd ce m=>by simp at a;subst a;rw[auU,if_pos rfl]at m;cases m⟩;have aq:∀x,x≠d2->eg β [d2] x=β x:=λx a=>by simp[eg,a]
 have fin:∀(i:Value) (j:World) (b:Nat),(execOp Q o).run G.P w=.ok (.value i) j->fA i=true->dW w j b->Place cx b->(∀x,((σ.minus [d]).get x).isSome->b∉b3 (β x))->
   (∀(o:Nat) e,I b o=some e->j.cell? ⟨b,o,none⟩=some e)->I b none=none->(bE i=some b\/b3 i=[])->bb cx I (et β d2 i) j d2 (.eR aM xs t)->
   jX G.P (λe j=>∃(aY:U) (B:W) (R:a2) (ae:Nat->Value),(aY=.own d2/\B=(d2,b1.eR aM xs t)::σ.minus [d])/\az R ae aY e/\bG G cx R ae B j/\bM I R/\(∀x,x∉[d2]->ae x=β x)/\(∀x,x∉[d,d2]->B.get x=σ.get x)) ((execOp Q o).run G.P w):=by
  intro i j b a5 eZ bF a1 ca bn bl D bT;rw[a5];refine⟨.own d2,_,I,et β d2 i,⟨rfl,rfl⟩,by simp only[az,eB,eZ,and_self],?_,bM.refl I,λx a=>ff β i (by simpa using a),λx a=>?_⟩
  .refine bg.turn (d:=d2) bF a1 (λ_ _=>rfl) (λx a aB f=>?_) (bM.refl I) (λ_ _ _=>rfl) bn bl (λx a=>by rw[ff β i a,aq x a]) (.inl (by simpa using hi)) (λx=>?_) (by rw[eB];exact D) (λq bh=>?_)
   .rw[auU,if_neg (Ne.symm a)]at aB
    grind
   .by_cases a:x=d2
    .left;simp[eg,a]
    .right;rw[ff β i a,aq x a]
   .rw[auU,if_pos rfl]at bh
    grind
  .have a:x≠d/\x≠d2:=by simpa using a
   rw[auU,if_neg (Ne.symm a.2),avc,if_neg (by simpa using a.1)]
 have bi:∀b,bE (β d)=some b->∀x,((σ.minus [d]).get x).isSome->b∉b3 (β x):=λb D x a f=>by
  rw[avc]at a;split at a
  .cases a
  .rename_i bf;exact h.cA x d a (by rw[ax];rfl) (by simpa using bf) b f (gv D)
 have aZ:∀x,((σ.minus [d]).get x).isSome->w.heap.size∉b3 (β x):=λx a f=>by
  obtain⟨q,a⟩:=Option.isSome_iff_exists.1 a;exact absurd (aE.k3 a f) (by omega)
 have aS:I w.heap.size none=none:=h.fJ (Nat.le_refl _) none;have aT:∀(j:World) (o:Nat) e,I w.heap.size o=some e->j.cell? ⟨w.heap.size,o,none⟩=some e:=λj o e g=>by rw[h.fJ (Nat.le_refl _)]at g;cases g
 have aU:∀M,M<xs.length+1->xs.length+1<=grownCap w (xs.length+1) M aM/\grownCap w (xs.length+1) M aM<=maxLen:=λM _=>⟨grownCap_ge _ _ _ _,grownCap_le_maxLen _ _ _ _ aD⟩
 have V:∀l y,[β t][l]?=some y->w.cell? ((⟨n,0,none⟩:Addr).add l)=some y:=λl y Y=>by
  cases l with
  |zero=>simp at Y;subst Y;rw[g2];exact O.1
  |succ l=>simp at Y
 have aF:∀(K:c4) (aR:Nat),bX I xs.flatten K->K.length=xs.length->(∀f∈xs,f.length=1)->xs.length+1<=aR->aR<=maxLen->
   bb cx I (et β d2 (.slice (some ⟨w.heap.size,0,none⟩) (xs.length+1) aR)) (w.drew.alloc (.cells (K.toArray++[β t].toArray++Builtin.zeroCells ab.cells (aR-(xs.length+1))) aM)) d2 (.eR aM xs t):=by
  intro K aR bY a8 bs bc be;simp only[bb,eB,ff β _ aX];refine .inr ⟨w.heap.size,aR,_,rfl,bc,be,heap_alloc_new w.drew _,?_,?_,bs,?_,aG,λo=>h.fJ (Nat.le_refl _) o,.inl h.size⟩
  .simp only[Array.size_append,List.size_toArray,size_zeroCells,bj,a8,List.length_cons,List.length_nil,Nat.mul_one];omega
  .grind
  .grind
 have aI:∀q,dW w (w.drew.alloc q) w.heap.size:=λq=>(dW.alloc w.drew q).drew;have A:=h.b5 d _ ax;simp only[bb,Nat.mul_one]at A;rcases A with aa|⟨aa,rfl,-⟩|⟨b,aR,c,C,ag,F,z,am,ai,ao,bW,bV,a4,an⟩
 .rw[aa]at dM;rw[dM]at c0;simp[fA]at c0
 .have v:=run_append_nil (P:=G.P) w T o.type aM Z ab N.ee S ar ⟨n,0,none⟩ 1 1 [β t] (by rw[u];rfl) V (by omega) (by omega) (by simp at af;rw[aw];omega);obtain⟨J,H⟩:=aU 0 (by simp);simp only[List.length_nil,Nat.zero_add]at J H;refine fin _ _ w.heap.size (jQ m (by rw[dM,k,aa];exact v)) rfl (aI _) (.inl h.size) aZ (aT _) aS (.inl rfl) ?_;have:=aF [] (grownCap w 1 0 aM) rfl (by simp) (by simp) (by simpa using J) H;simpa using this
 .have D:bE (β d)=some b:=by rw[C];rfl
  have bP:=fo z;have b4:c.toList.length=aR:=by simpa using am
  have gK:xs.length<=c.toList.length:=by omega
  have aW:∀o:Nat,I b o=none:=λo=>a4 o (by omega);by_cases X:xs.length+1<=aR
  .have v:=run_append_room (P:=G.P) w T o.type aM Z N.ee S b xs.length aR c z ⟨n,0,none⟩ 1 1 [β t] (by rw[u];rfl) V a9 X (by rw[u,Nat.mul_one,am];exact X);rw[u,Nat.mul_one]at v;refine fin _ _ b (jQ m (by rw[dM,k,C];exact v)) rfl (dW.setRow w b _) an (bi b D) (λo e g=>by rw[aW o]at g;cases g) (h.kW z) (.inl rfl) ?_;have a3:=setRow_heap w b c (c.toList.take xs.length++[β t]++c.toList.drop (xs.length+[β t].length)).toArray aM (0,0) z;simp only[bb,eB,ff β _ aX];refine .inr ⟨b,aR,_,rfl,X,F,a3,?_,?_,ao,?_,aG,aW,an⟩
   .simp;omega
   .have:(c.toList.take xs.length++[β t]++c.toList.drop (xs.length+[β t].length)).take xs.length=c.toList.take xs.length:=by
     rw[List.append_assoc,List.take_append_of_le_length (by rw[List.length_take];omega),List.take_take,Nat.min_self]
    simp only at this ⊢;rw[this];exact ai
   .have:(c.toList.take xs.length++[β t]++c.toList.drop (xs.length+[β t].length))[xs.length]?=some (β t):=by
     rw[List.append_assoc,List.getElem?_append_right (by rw[List.length_take];omega)];rw[List.length_take,Nat.min_eq_left gK,Nat.sub_self];rfl
    rw[<-Array.getElem?_toList];exact this
  .have aA:(c.toList.take xs.length).length=xs.length:=by rw[List.length_take,Nat.min_eq_left gK]
   have bJ:∀l e,(c.toList.take xs.length)[l]?=some e->w.cell? ((⟨b,0,none⟩:Addr).add l)=some e:=λl e g=>by
    rw[g2];rw[List.getElem?_take]at g;split at g
    .simp only[World.cell?,z,Nat.zero_add];simpa using g
    .cases g
   have v:=run_append_grow (P:=G.P) w T o.type aM Z ab N.ee S ar ⟨b,0,none⟩ xs.length aR _ (by rw[u,Nat.mul_one];exact aA) bJ ⟨n,0,none⟩ 1 1 [β t] (by rw[u];rfl) V (by omega) (by omega) (growslice_fits (by omega) (by rw[aw];exact af));obtain⟨J,H⟩:=aU aR (by omega);exact fin _ _ w.heap.size (jQ m (by rw[dM,k,C];exact v)) rfl (aI _) (.inl h.size) aZ (aT _) aS (.inl rfl) (aF _ _ ai aA ao J H)
end
end
section
theorem av2{G:bQ}{env:ah}{σ:W}(d t:Nat){T K E:Nat}{xs:List (List U)}{bs:List (U×U)}(g:σ.get d=some (.eR T xs t))(k:σ.get t=some (.gM K E bs)):
  bJ G env σ env (σ.set d (.slice T 1 (xs++[[.b8 bs]]) 0 false)):=λL i c J P b j=>by
 refine⟨i,c,qL g b ?_,j⟩;have e:=b.b5 d _ g;have h:=b.b5 t _ k;simp only[bb]at e h ⊢;rcases e with y|⟨v,aR,a,n,p,l,m,B,q,D,f,s,r,u⟩
 .exact .inl y
 .obtain⟨O,es,clock,z,C,F,H,I⟩:=h.resolve_left s;refine .inr (.inr ⟨v,aR,a,by rw[n];simp,by simpa using p,l,m,by omega,?_,λM N=>?_,by simp,by simp,λo _=>r o,u⟩)
  .have A:xs.length<a.toList.length:=by simpa using (Array.getElem?_eq_some_iff.1 f).1
   have w:a.toList[xs.length]?=some (c t):=by simpa using f
   have x:a.toList.take ((xs++[[U.b8 bs]]).length*1)=a.toList.take xs.length++[c t]:=by
    rw[List.length_append,List.length_singleton,Nat.mul_one,List.take_add_one,w];rfl
   rw[x,List.flatten_append];refine(hC _ _ _).2 ⟨_,_,rfl,q,?_⟩;simp only[List.flatten_cons,List.flatten_nil,List.append_nil,bX,aN]
   grind
  .grind
def hw(k:IntKind)(n:Int)(es:dK)(clock:Nat):Nat:=match Instr.findNow (.int k) (.int k n) es.toList 0 with
 |some (some (a,_))=>((es[a]?).map (·.born)).getD 0
 |_=>clock
def gr(k:IntKind)(n:Int)(z:Value)(es:dK)(clock:Nat):dK:=match Instr.findNow (.int k) (.int k n) es.toList 0 with
 |some (some _)=>es
 |_=>es.push ⟨.int k n,z,clock⟩
def j7(k:IntKind)(n:Int)(es:dK)(clock:Nat):Nat:=match Instr.findNow (.int k) (.int k n) es.toList 0 with
 |some (some _)=>clock
 |_=>clock+1
def Hs(a:TypeDesc)(key:Value)(B:iw):∀(A:iw) (i:Nat),Instr.findNow a key A i=some none->Instr.findNow a key (A++B) i=Instr.findNow a key B (i+A.length)
 |[],i,_=>rfl
 |e::A,i,h=>by
  simp only[Instr.findNow,List.cons_append]at h ⊢;cases c:Instr.sameNow a key e.key with
  |none=>rw[c]at h;cases h
  |some b=>
   cases b with
   |true=>rw[c]at h;cases h
   |false=>
    rw[c]at h;simp only at h ⊢;rw[Hs a key B A (i+1) h,List.length_cons];congr 1;omega
theorem It{α:Type}{l:Array α}{j:Nat}{f:α->α}(a:∀e,l[j]?=some e->f e=e):l.modify j f=l:=by grind
theorem tg{α:Type}(n:Int)(v:α):∀l:List (Int×α),ay (bc l n v) n=some v
 |[]=>by simp[bc,ay]
 |p::r=>by
  unfold bc;split
  .simp[ay]
  .rename_i a;have:=tg n v r;unfold ay at this ⊢
   grind
theorem Dk{α:Type}{n:Int}:∀{l:List (Int×α)} {v:α},ay l n=some v->bc l n v=l
 |[],_,h=>by simp[ay]at h
 |p::r,v,h=>by
  unfold bc;unfold ay at h;split
  .grind
  .rename_i a;rw[List.find?_cons_of_neg (by simpa using a)]at h;rw[Dk (l:=r) h]
def BU{α:Type}(n:Int)(b v:α):∀l:List (Int×α),bc (bc l n b) n v=bc l n v
 |[]=>by simp[bc]
 |p::r=>by
  by_cases a:p.1=n
  .simp[bc,a]
  .simp[bc,a,BU n b v r]
section
variable {G:bQ}{σ:W}{o:Oper}{ev:Operand->U}
variable {E K T clock:Nat}{es:dK}{k:IntKind}{z:Value}{α:Type}
def axh{d:Nat}{x y:Operand}{n:Int}(l:List (Int×α))(enc:α->U)(g:α)(m:o.op=.mapEntry T x y)(b:ev x=.cc d)(aq:ev y=.int k n)
  (H:σ.get d=some (.er es clock K E (bg k enc l))) (L:gi G.P T K E k) (aM:∀w,(zeroValue E).run G.P w=.ok z w) (aI:∀I,aN I (enc g) z) :
  eL G o ev σ [d] [] (λr ar=>r=.bO [.dg,.int .i64 (hw k n es clock:Int)]/\ar=σ.set d (.er (gr k n z es clock) (j7 k n es clock) K E (bg k enc (bc l n ((ay l n).getD g))))):=by
 intro aS I p w O u ao;have e:=ao x (by simp[m,Op.operands]);rw[b]at e
 have f:=ao y (by simp[m,Op.operands]);rw[aq]at f;have f:=fW f
 simp only[az]at e;obtain⟨e,ag⟩:=e;have aC:p d≠.nilFunc:=λc=>by rw[e,c]at ag;simp[hd]at ag
 have R:=u.b5 d _ H;simp only[bb,aC,false_or]at R;obtain⟨r,v,i,s,t,X,S⟩:=R;have ak:∀w,(underlying T).run G.P w=.ok (.map K E) w:=λw=>by simp[underlying,program,Sem.run,L.ee]
 have am:∀w,(underlying K).run G.P w=.ok (.int k) w:=λw=>by simp[underlying,program,Sem.run,L.key]
 have W:=l7 (P:=G.P) i;have aa:=qi (P:=G.P) L.key false n w
 have ab:∀h:Obj,(setObj r h).run G.P w=.ok () {w with heap:=w.heap.setIfInBounds r h}:=λh=>by
  have:=fo i;simp[setObj,Sem.run,i]
 have af:O x=.map (some r):=by rw[e,v]
 have aG:∃N,(execOp O o).run G.P w=.ok (.value (.tuple #[N,.int .i64 (hw k n es clock:Int)])) {w with heap:=w.heap.setIfInBounds r (.map (gr k n z es clock) (j7 k n es clock))}/\c3 I (bg k enc (bc l n ((ay l n).getD g))) (gr k n z es clock).toList/\fM (gr k n z es clock) (j7 k n es clock):=by
  cases q:ay l n with
  |none=>
   obtain⟨a,Z⟩:=sP n l es.toList 0 s q;have C:(Instr.findKey K (.int k n) es.toList).run G.P w=.ok none w:=by simp[Instr.findKey,am,a]
   have A:hw k n es clock=clock:=by unfold hw;rw[a]
   have B:gr k n z es clock=es.push ⟨.int k n,z,clock⟩:=by unfold gr;rw[a]
   have F:j7 k n es clock=clock+1:=by unfold j7;rw[a]
   rw[A,B,F];refine⟨z,by simp[execOp,m,Instr.mapEntry,af,f,ak,W,aa,C,ab,aM,goInt],?_,S.push _ _⟩;simpa using Z g ⟨.int k n,z,clock⟩ (aI I) rfl
  |some J=>
   obtain⟨M,ai,a,Z,V,aA,ae,aR⟩:=sO n l es.toList 0 J s q;have C:(Instr.findKey K (.int k n) es.toList).run G.P w=.ok (some (0+M,ai)) w:=by simp[Instr.findKey,am,a]
   have D:es[M]?=some V:=by simpa using aA
   have aE:(Instr.keyThatStays (.int k n) (.int k n)).run G.P w=.ok (.int k n) w:=by simp[Instr.keyThatStays,Instr.sameBits]
   have A:hw k n es clock=V.born:=by unfold hw;rw[a];simp[D]
   have B:gr k n z es clock=es:=by unfold gr;rw[a]
   have F:j7 k n es clock=clock:=by unfold j7;rw[a]
   have aD:es.modify M (λc=>{c with key:=.int k n})=es:=It λc an=>by
    rw[D]at an;cases an;rw[<-ae]
   rw[A,B,F];refine⟨ai,by simp[execOp,m,Instr.mapEntry,af,f,ak,W,aa,C,ab,D,ae,aE,goInt,aD],?_,S⟩;rw[show(some J:Option α).getD g=J from rfl,Dk q];exact s
 obtain⟨N,ax,aB,aw⟩:=aG;rw[ax];refine⟨.bO [.dg,.int .i64 (hw k n es clock:Int)],_,I,p,⟨rfl,rfl⟩,by simp[az,bx,aN],?_,bM.refl I,λ_ _=>rfl,λx b=>by rw[au5,if_neg (by simpa using b)]⟩;have Y:bE (p d)=some r:=by rw[v];rfl
 refine u.turn (d:=d) (au9 w r _) X (λx b=>by rw[au5,if_neg b]) (λx b aF c=>u.cA x d aF (by rw[H];rfl) b r c (gv Y)) (bM.refl I) (λ_ _ _=>rfl)
  (λo N Q=>by rw[t o]at Q;cases Q) (t none) (λ_ _=>rfl) (.inr rfl) (en.refl p) (.inl Y) λh j=>?_
 rw[au5,if_pos rfl,H]at j;injection j with j
 subst j;simp only[bb];exact .inr ⟨r,v,by have:=fo i;simp[Array.getElem?_setIfInBounds,this],aB,t,X,aw⟩
theorem Pj{I:a2}{n:Int}{l:List (Int×α)}{enc:α->U}{a:α}(E:c3 I (bg k enc l) (gr k n z es clock).toList)(D:fM (gr k n z es clock) (j7 k n es clock))(y:ay l n=some a):
  ∃j e,(gr k n z es clock).findIdx? (λe=>(e.born:Int)==(hw k n es clock:Int))=some j/\(gr k n z es clock)[j]?=some e/\e.key=.int k n/\
   ∀(b:α) (g:Value),aN I (enc b) g->c3 I (bg k enc (bc l n b)) ((gr k n z es clock).modify j λe=>{e with val:=g}).toList:=by
 obtain⟨j,g,f,O,p,o,F,H⟩:=sO n l _ 0 a E y;have C:p.born=hw k n es clock:=by
  cases d:Instr.findNow (.int k) (.int k n) es.toList 0 with
  |none=>
   have r:hw k n es clock=clock:=by unfold hw;rw[d]
   have i:gr k n z es clock=es.push ⟨.int k n,z,clock⟩:=by unfold gr;rw[d]
   rw[i]at f;exfalso;rw[Array.toList_push]at f;have:∀(A t:iw) (h:Nat),Instr.findNow (.int k) (.int k n) A h=none->Instr.findNow (.int k) (.int k n) (A++t) h=none:=by
    intro A t;induction A with
    |nil=>intro h m;cases m
    |cons c A B=>
     intro h m;simp only[Instr.findNow,List.cons_append]at m ⊢;cases w:Instr.sameNow (.int k) (.int k n) c.key with
     |none=>rfl
     |some b=>
      cases b with
      |true=>rw[w]at m;cases m
      |false=>rw[w]at m;exact B (h+1) m
   rw[this _ _ 0 d]at f;cases f
  |some q=>
   cases q with
   |none=>
    have r:hw k n es clock=clock:=by unfold hw;rw[d]
    have i:gr k n z es clock=es.push ⟨.int k n,z,clock⟩:=by unfold gr;rw[d]
    rw[i,Array.toList_push,Hs _ _ _ _ _ d]at f;have s:j=es.size:=by
     simp only[Instr.findNow]at f
     grind
    rw[i,s]at o;simp at o;rw[<-o,r]
   |some q=>
    obtain⟨x,P⟩:=q;have i:gr k n z es clock=es:=by unfold gr;rw[d]
    rw[i,d]at f;have s:x=j:=by simp at f;omega
    rw[i]at o;have r:hw k n es clock=((es[x]?).map (·.born)).getD 0:=by unfold hw;rw[d]
    have:es[j]?=some p:=by simpa using o
    rw[r,s,this];rfl
 have v:(gr k n z es clock)[j]?=some p:=by simpa using o
 refine⟨j,p,?_,v,F,λb g N=>?_⟩
 .rw[Array.findIdx?_eq_some_iff_getElem];obtain⟨u,L⟩:=Array.getElem?_eq_some_iff.1 v;refine⟨u,by rw[L];simp[C],λh M=>?_⟩;intro J;have J:(gr k n z es clock)[h].born=hw k n es clock:=by grind
  have K:=D.1;have:=List.pairwise_iff_getElem.1 K h j (by simp;omega) (by simpa using u) M
  grind
 .have:=H b g (λe=>{e with key:=.int k n,val:=g}) N (λe=>⟨rfl,rfl⟩)
  have G:((gr k n z es clock).modify j λe=>{e with val:=g}).toList=(gr k n z es clock).toList.modify j λe=>{e with key:=.int k n,val:=g}:=by
   rw[Array.toList_modify];apply List.ext_getElem?
   grind
  rw[G];exact this
def axj{d:Nat}{x y v:Operand}{n:Int}{a0:α}(l:List (Int×α))(enc:α->U)(a:α)(s:o.op=.entryStore T x y v)(b:ev x=.cc d)(O:ev y=.int .i64 (hw k n es clock:Int))(j:ev v=enc a)(Z:(enc a).closed=true)
  (C:σ.get d=some (.er (gr k n z es clock) (j7 k n es clock) K E (bg k enc l))) (M:ay l n=some a0) :
  eL G o ev σ [d] [] (λr Q=>r=.undef/\Q=σ.set d (.map K E (bg k enc (bc l n a)))):=by
 intro ag u t c i A D;have f:=D x (by simp[s,Op.operands]);rw[b]at f
 have g:=D y (by simp[s,Op.operands]);rw[O]at g;have g:=fW g
 have m:=D v (by simp[s,Op.operands]);rw[j]at m
 have m:=az.closed _ _ Z m;simp only[az]at f;obtain⟨f,L⟩:=f;have V:t d≠.nilFunc:=λe=>by rw[f,e]at L;simp[hd]at L
 have F:=A.b5 d _ C;simp only[bb,V,false_or]at F;obtain⟨r,B,p,N,w,I,H⟩:=F;have R:=l7 (P:=G.P) p
 have W:∀h:Obj,(setObj r h).run G.P c=.ok () {c with heap:=c.heap.setIfInBounds r h}:=λh=>by
  have:=fo p;simp[setObj,Sem.run,p]
 have X:i x=.map (some r):=by rw[f,B]
 obtain⟨ab,e,ae,ai,af,aa⟩:=Pj N H M
 have S:(execOp i o).run G.P c=.ok .skip {c with heap:=c.heap.setIfInBounds r (.map ((gr k n z es clock).modify ab λe=>{e with val:=i v}) (j7 k n es clock))}:=by
  simp[execOp,s,Instr.entryStore,X,g,R,asInt,asIntOf,ae,W]
 rw[S];refine⟨.undef,_,u,t,⟨rfl,rfl⟩,by simp[az,aN],?_,bM.refl u,λ_ _=>rfl,λx b=>by rw[au5,if_neg (by simpa using b)]⟩;have J:bE (t d)=some r:=by rw[B];rfl
 refine A.turn (d:=d) (au9 c r _) I (λx b=>by rw[au5,if_neg b]) (λx b Y e=>A.cA x d Y (by rw[C];rfl) b r e (gv J)) (bM.refl u) (λ_ _ _=>rfl)
  (λo v j=>by rw[w o]at j;cases j) (w none) (λ_ _=>rfl) (.inr rfl) (en.refl t) (.inl J) λh q=>?_
 rw[au5,if_pos rfl,C]at q;injection q with q
 subst q;simp only[bb];exact .inr ⟨r,_,_,B,by have:=fo p;simp[Array.getElem?_setIfInBounds,this],aa a (i v) m,w,I,H.modify _ _ λ_=>rfl⟩
end
end
section
open Go.ChangeMaps (setBlock)
section cert
variable {G:bQ}{ops:hU}{K:ah->W->Prop}
def avq:∀{l:cg} {m k:List (Nat×cg)} {env:ah} {σ:W},ep G ops ⟨false,[],[]⟩ m l env σ K->ep G ops ⟨false,[],[]⟩ k l env σ K
 |[],_,_,_,_,c=>c
 |i::l,m,k,env,σ,c=>by
  obtain⟨o,r,c⟩:=c;refine⟨o,r,?_⟩;rcases c with⟨d,a,b⟩|⟨d,a,t,p,h,w,b,j,e,g,f⟩|⟨d,a,n,u,v,b,j,e,g,f⟩|⟨d,a,b⟩
  .exact .inl ⟨d,a,avq b⟩
  .exact .inr (.inl ⟨d,a,t,p,h,w,b,j,e,g,avq f⟩)
  .exact .inr (.inr (.inl ⟨d,a,n,u,v,b,(λc=>by cases c),e,g,λh s q=>avq (f h s q)⟩))
  .exact .inr (.inr (.inr ⟨d,a,avq b⟩))
def ep.append{ab:cg}:∀{ae:cg} {log:List (Nat×cg)} {env:ah} {σ:W},ep G ops ⟨false,[],[]⟩ log ae env σ (λe s=>ep G ops ⟨false,[],[]⟩ [] ab e s K)->ep G ops ⟨false,[],[]⟩ log (ae++ab) env σ K
 |[],_,_,_,h=>avq h
 |i::l,log,env,σ,h=>by
  obtain⟨o,ag,h⟩:=h;refine⟨o,ag,?_⟩;rcases h with⟨F,u,D⟩|⟨F,u,cw,R,bt,an,D,O,Q,aa,X⟩|⟨F,u,M,ak,am,D,O,Q,aa,X⟩|⟨F,u,D⟩
  .exact .inl ⟨F,u,ep.append D⟩
  .exact .inr (.inl ⟨F,u,cw,R,bt,an,D,O,Q,aa,ep.append X⟩)
  .exact .inr (.inr (.inl ⟨F,u,M,ak,am,D,O,Q,aa,λbt ai af=>ep.append (X bt ai af)⟩))
  .exact .inr (.inr (.inr ⟨F,u,ep.append D⟩))
end cert
theorem avo{P:Program}{N:Nat}{ids:cg}{bo:ef}{env:ah}{σ:W}{m:Exit->ah->W->Prop}(z:fI P bo){id:Nat}{ops:hU}(n:Nat)(h:cg)(a:List (Nat×Hint P))(e1:ah)(s1:W){o:Oper}{M news:cg}{Φ:U->W->Prop}
  (y:List.range ops.size=List.range n++n::h) (p:mE N ops=true) (C:kN bo ids ops ⟨false,[],[]⟩ ((List.range n).map λi=>(i,hintOf a i)) [] env σ=some (e1,s1,(List.range n).map λi=>(hintOf a i).exp))
  (u:ops[n]?=some o) (t:o.guard=none) (cB:eL ⟨P,N,ids⟩ o e1.ev s1 M news Φ) (B:e1.clean news.contains=true) (E:news.all (λd=>!ids.contains d&&(s1.get d).isNone)=true)
  (k:∀bt c,Φ bt c->∃(c0:List (Nat×Hint P)) (e2:ah) (j:W),kN bo ids ops ⟨false,[],[]⟩ (h.map λi=>(i,hintOf c0 i)) [] (e1.put o.dst bt) c=some (e2,j,h.map λi=>(hintOf c0 i).exp)/\m .normal e2 j):ar ⟨P,N,ids⟩ (.region id ops false) m env σ:=by
 refine A.region p ?_;rw[y]
 have q:∀(a:List (Nat×Hint P)) (e:cg) {K:ah->W->Prop} {l g:ah} {s f:W},kN bo ids ops ⟨false,[],[]⟩ (e.map λi=>(i,hintOf a i)) [] l s=some (g,f,e.map λi=>(hintOf a i).exp)->K g f->ep ⟨P,N,ids⟩ ops ⟨false,[],[]⟩ [] e l s K:=λa e K l g s f b x=>by
  have:=nF (N:=N) (K:=K) z b (by rw[List.map_map];rfl) x;rw[List.map_map,show((λD:Nat×Hint P=>D.1)∘λi=>(i,hintOf a i))=λi=>i from rfl,List.map_id']at this;exact this
 refine ep.append (q a _ C ?_);refine⟨o,u,.inr (.inr (.inl ⟨?_,(λb=>by cases b),M,news,Φ,cB,(λb=>by cases b),B,λd p=>?_,λbt c r=>?_⟩))⟩
 .simp only[fD,t]
 .simp_all
 .obtain⟨c0,e2,j,w,v⟩:=k bt c r;exact q c0 _ w v
section iter
variable {G:bQ}{σ:W}{o:Oper}{ev:Operand->U}
variable {bz clock:Nat}{es:dK}{seen:iz}
def yX{cx:c2}{I:a2}{β:Nat->Value}{w:World}(d:bG G cx I β σ w){bs:List (U×U)}(hi:σ.get bz=some (.gD es clock bs seen)){v:Value}(a:az I β (.ptr bz 0) v):
  ∃r b,v=.pointer (some ⟨r,0,none⟩)/\bE (β bz)=some r/\w.heap[r]?=some (.mapIter (some b) clock seen clock)/\w.heap[b]?=some (.map es clock)/\I b none=some (i1 es clock)/\c3 I bs es.toList/\fM es clock/\(∀o,I r o=none)/\Place cx r/\β bz=.pointer (some ⟨r,0,none⟩):=by
 simp only[az]at a;obtain⟨g,a,h⟩:=a;have q:β bz≠.nilFunc:=λt=>by rw[t]at a;cases a
 have e:=d.b5 bz _ hi;simp only[bb,q,false_or]at e;obtain⟨r,b,f,j,c,i,l,k,p⟩:=e;have s:g=r:=by rw[f]at a;simpa [bE]using a.symm
 subst s;obtain⟨u,x,n,m⟩:=d.eD b _ c;obtain⟨rfl,rfl⟩:=qD m;exact⟨g,b,h,a,j,n,c,i,l,k,p,f⟩
def axt{T K E:Nat}{x:Operand}{bs:List (U×U)}(h:o.op=.range T x)(b:ev x=.b8 bs)(H:G.P.underlying T=some (.map K E))(hi:G.ids.contains bz=false)(t:σ.clean [bz].contains=true):
  eL G o ev σ [bz] [bz] (λr A=>r=.ptr bz 0/\∃es clock,A=(bz,.gD es clock bs #[])::σ):=by
 intro Q j i a v c J;have m:=J x (by simp[h,Op.operands]);rw[b]at m
 simp only[az,aN]at m;obtain⟨g,es,clock,B,p,w,y⟩:=m;obtain⟨M,N,D,C⟩:=c.eD g _ p;obtain⟨rfl,rfl⟩:=qD C;have F:(execOp v o).run G.P a=.ok (.value (.pointer (some ⟨a.heap.size,0,none⟩))) (a.alloc (.mapIter (some g) clock #[] clock)):=by
  simp[execOp,h,B,run_range_map a T K E g es clock H D]
 rw[F];have n:=c.jE (cw:=[bz]) (σ2:=σ) (env:=[]) ⟨λ_ _=>rfl,by simpa using hi,rfl,t,λx b P R h=>by have:=(au8 t x _ h).1;rw[List.contains_iff_mem.2 b]at this;cases this⟩;have z:∀e,e≠bz->et (eg i [bz]) bz (.pointer (some ⟨a.heap.size,0,none⟩)) e=i e:=λe f=>by rw[ff _ _ f];simp[eg,f]
 have l:et (eg i [bz]) bz (.pointer (some ⟨a.heap.size,0,none⟩)) bz=.pointer (some ⟨a.heap.size,0,none⟩):=eB _ _ _;refine⟨.ptr bz 0,_,j,et (eg i [bz]) bz (.pointer (some ⟨a.heap.size,0,none⟩)),⟨rfl,es,clock,rfl⟩,?_,?_,bM.refl j,λe f=>z e (by simpa using f),λe f=>by rw[auU,if_neg (Ne.symm (by simpa using f))]⟩
 .simp only[az,l];exact⟨a.heap.size,rfl,rfl⟩
 .refine n.turn (d:=bz) (dW.alloc a _) (.inl c.size) (λx b=>by rw[auU,if_neg (Ne.symm b)]) (λx b k I=>by
    obtain⟨u,k⟩:=Option.isSome_iff_exists.1 k;exact absurd (n.k3 k I) (by omega)) (bM.refl j) (λ_ _ _=>rfl) (λO L s=>by rw[c.fJ (Nat.le_refl _)]at s;cases s) (c.fJ (Nat.le_refl _) none)
   (λx b=>ff _ _ b) (.inl (by simpa using hi)) (avi (by simp[eg])) (.inl (by rw[l];rfl)) λu q=>?_
  rw[auU,if_pos rfl]at q;cases q;simp only[bb,l];exact .inr ⟨a.heap.size,g,rfl,heap_alloc_new a _,p,w,y,λo=>c.fJ (Nat.le_refl _) o,.inl c.size⟩
theorem axu{x:Operand}{bs:List (U×U)}(m:o.op=.next x false)(c:ev x=.ptr bz 0)(hi:σ.get bz=some (.gD es clock bs seen)):
  eL G o ev σ [bz] [] (λr w=>((leftOf es seen).size=0/\r=.bO [.bool false]/\w=σ)\/∃e∈(leftOf es seen).toList,r=.bO [.bool true,.dg,.dg]/\w=σ.set bz (.gD es clock bs (seen.push e.born))):=by
 intro R f p b s h J;have z:=J x (by simp[m,Op.operands]);rw[c]at z
 obtain⟨a,g,q,y,t,E,N,Q,F,u,D,M⟩:=yX h hi z;rcases run_next_at (P:=G.P) b o.type a g clock clock seen es clock t E F.2 (Nat.le_refl _)with⟨n,k⟩|⟨e,n,j,k,K⟩
 .have l:(execOp s o).run G.P b=.ok (.value (.tuple #[.bool false])) b:=by simp[execOp,m,q,k]
  rw[l];refine⟨.bO [.bool false],σ,f,p,.inl ⟨n,rfl,rfl⟩,?_,h,bM.refl f,λ_ _=>rfl,λ_ _=>rfl⟩;simp[az,bx,aN]
 .have l:(execOp s o).run G.P b=.ok (.value (.tuple #[.bool true,e.key,e.val])) (setBlock j a (.mapIter (some g) clock (seen.push e.born) clock)):=by simp[execOp,m,q,K]
  rw[l];refine⟨.bO [.bool true,.dg,.dg],σ.set bz (.gD es clock bs (seen.push e.born)),f,p,.inr ⟨e,n,rfl,rfl⟩,?_,?_,bM.refl f,λ_ _=>rfl,λT A=>by rw[au5,if_neg (by simpa using A)]⟩
  .simp only[az,bx,aN]
   grind
  .have I:dW b (setBlock j a (.mapIter (some g) clock (seen.push e.born) clock)) a:=by
    rcases k with rfl|rfl
    .exact au9 _ a _
    .exact dW.drew (au9 _ a _)
   have O:(setBlock j a (.mapIter (some g) clock (seen.push e.born) clock)).heap[a]?=some (.mapIter (some g) clock (seen.push e.born) clock):=by
    have C:=fo t;have:j.heap=b.heap:=by rcases k with rfl|rfl<;>rfl
    simp[setBlock,this,Array.getElem?_setIfInBounds,C]
   refine h.turn (d:=bz) I D (λx c=>by rw[au5,if_neg c]) (λx c H B=>h.cA x bz H (by rw[hi];rfl) c a B (gv y)) (bM.refl f) (λ_ _ _=>rfl)
    (λo S v=>by rw[u o]at v;cases v) (u none) (λ_ _=>rfl) (.inr rfl) (en.refl p) (.inl y) λL i=>?_
   rw[au5,if_pos rfl,hi]at i;injection i with i
   subst i;simp only[bb]
   grind
theorem awR{α:Type}{i:Nat}{k:IntKind}{x:Operand}{e:MapEntry}{n:Int}{v:α}(l:List (Int×α))(enc:α->U)(d:o.op=.entry x)(g:ev x=.ptr bz 0)(hi:σ.get bz=some (.gD es clock (bg k enc l) (seen.push e.born)))
  (C:es[i]?=some e) (z:l[i]?=some (n,v)):Yields G o ev σ [] [bz] (.bO [.int k n,enc v]):=
 .pure λJ O H F b j q p D=>by
  have f:=D x (by simp[d,Op.operands]);rw[g]at f
  obtain⟨A,w,h,N,m,r,L,s,u,I,M,K⟩:=yX p (by rw[q bz (by simp)];exact hi) f;have y:e∈es.toList:=by grind
  have t:(execOp j o).run G.P b=.ok (.value (.tuple #[e.key,e.val])) b:=by simp[execOp,d,h,run_entry_at (P:=G.P) b A w clock seen es clock e m r y u.1]
  refine⟨_,t,?_⟩;obtain⟨E,B⟩:=tw s (i:=i) (a:=.int k n) (c:=enc v) (e:=e) (by simp[bg,z]) (by simpa using C);simp only[az,bx];exact⟨_,rfl,e.key,[e.val],rfl,E,e.val,[],rfl,aN.rep F _ _ B,rfl⟩
end iter
def DE{I:a2}:∀{bs:List (U×U)} {es:iw},c3 I bs es->es.length=bs.length
 |[],_,h=>by simp only[c3]at h;rw[h];rfl
 |(k,v)::r,_,h=>by
  simp only[c3]at h;obtain⟨c,b,rfl,_,_,a⟩:=h;simp[DE a]
def I7{A:Type}[DecidableEq A]{a b:List A}(c:a.Nodup)(f:∀x∈a,x∈b):a.length<=b.length:=by
 induction a generalizing b with
 |nil=>simp
 |cons x a g=>
  rw[List.nodup_cons]at c;have d:=f x (by simp);have:=g (b:=b.erase x) c.2 λi e=>(List.mem_erase_of_ne (λh=>c.1 (by rw[<-h];exact e))).2 (f i (by simp[e]));rw[List.length_erase_of_mem d]at this;have:=List.length_pos_of_mem d;simp only[List.length_cons];omega
theorem A.Rg{S cE α:Type}{G:bQ}{σ:W}{env:ah}{ao:Exit->ah->W->Prop}{dz:cE->U}{enc:α->U}{l:List (cE×α)}{id b t1 t2 it bz clock:Nat}{es:dK}{Q aa:Oper}{y:Code}
  (Inv:List (cE×α)->S->Prop) (am:S) (u:S->ah) (O:iz->S->W) (an:Q.op=.next (.tmp it) false/\Q.dst=some t1/\Q.guard=none) (aw:aa.op=.extract (.tmp t1) 0/\aa.dst=some t2/\aa.guard=none) (Z:mE G.N #[Q,aa]=true)
  (bc:Inv [] am) (hit:∀g,(u g).get it=.ptr bz 0) (aS:∀seen g,(O seen g).get bz=some (.gD es clock (e5 dz enc l) seen))
  (a5:∀seen g az,(O seen g).set bz (.gD es clock (e5 dz enc l) az)=O az g) (aW:bJ G env σ (u am) (O #[] am))
  (body:∀(seen:iz) (e:MapEntry) (i:Nat) (n:cE) (v:α) (p:List (cE×α)) (g:S),es[i]?=some e->l[i]?=some (n,v)->p.length<l.length->Inv p g->
   ar G y (kI (λaD X=>∃af,Inv (p++[(n,v)]) af/\bJ G aD X (u af) (O (seen.push e.born) af)) ao) ((t2,.bool true)::(t1,.bO [.bool true,.dg,.dg])::u g) (O (seen.push e.born) g))
  (bN:∀seen p g,p.Perm l->Inv p g->ao (.exit b) ((t2,.bool false)::(t1,.bO [.bool false])::u g) (O seen g)) :
  ar G (.loop (.seq (.region id #[Q,aa] false) (.seq (.cond (.tmp t2) .skip (.exit b)) y))) ao env σ:=by
 refine A.loop (α:=iz×S) (λs=>u s.2) (λs=>O s.1 s.2) (λs=>∃p:cg,p.Nodup/\(∀i∈p,i<l.length)/\(∀(i:Nat) (e:MapEntry),es[i]?=some e->(s.1.contains e.born=true↔i∈p))/\Inv (fC l p) s.2)
  (λs=>(leftOf es s.1).size) (#[],am) ⟨[],List.nodup_nil,by simp,by simp,bc⟩ aW ?_
 rintro⟨seen,g⟩ ⟨p,aY,aq,ae,aE⟩;refine awe (F:=es.size=l.length/\(es.toList.map (·.born)).Nodup) (λcx I β a w a3 ba=>?_) λ⟨f1,f2⟩=>?_
 .have ag:=ba it;rw[show(u (seen,g).2).get it=.ptr bz 0 from hit g]at ag;obtain⟨b,bD,aU,bA,bl,aq,bu,a1,ae,bn,bx,bs⟩:=yX a3 (aS seen g) ag;have:=DE a1;exact⟨by simpa [e5]using this,ae.1⟩
 have a9:ah.get ((t2,.bool true)::(t1,.bO [.bool true,.dg,.dg])::u g) t2=.bool true:=by rw[avb,if_pos rfl]
 have a6:ah.get ((t2,.bool false)::(t1,.bO [.bool false])::u g) t2=.bool false:=by rw[avb,if_pos rfl]
 refine A.seq (A.region Z ?_);show ep G #[Q,aa] ⟨false,[],[]⟩ [] [0,1] (u g) (O seen g) _;refine⟨Q,rfl,.inr (.inr (.inl ⟨by simp only[fD,an.2.2],by simp,[bz],[],_,axu (x:=.tmp it) an.1 (hit g) (aS seen g),by simp,avs _,by simp,λbt X a8=>?_⟩))⟩
 have ext:∀(vs:List U) (ak:Bool) (X:W) (K:ah->W->Prop),vs[0]?=some (.bool ak)->K ((t2,.bool ak)::(t1,.bO vs)::u g) X->ep G #[Q,aa] ⟨false,[],[]⟩ [] [1] ((u g).put Q.dst (.bO vs)) X K:=λvs ak X K aV a0=>by
  refine⟨aa,rfl,.inr (.inl ⟨by simp only[fD,aw.2.2],by simp,[],[],.bool ak,X,avt _ _ _,by simp,by simp,br.extract (x:=.tmp t1) aw.1 (by rw[an.2.1];show ah.get _ _=_;rw[ah.put,avb,if_pos rfl]) aV,?_⟩)⟩;rw[an.2.1,aw.2.1];exact a0
 rcases a8 with⟨ai,rfl,rfl⟩|⟨e,ai,rfl,rfl⟩
 .refine ext _ false _ _ rfl ?_
  have a7:∀i,i∈p↔i<l.length:=λi=>⟨aq i,λbv=>by
   have bi:i<es.size:=by omega
   refine(ae i es[i] (Array.getElem?_eq_getElem bi)).1 ?_;by_cases be:seen.contains es[i].born=true
   .exact be
   .exfalso;have:es[i]∈leftOf es seen:=by
     unfold leftOf
     grind
    have:leftOf es seen≠#[]:=λe=>by rw[e]at this;simp at this
    exact this (Array.eq_empty_of_size_eq_zero ai)⟩
  have aX:(fC l p).Perm l:=by
   have:=(xA aY a7).filterMap λi=>l[i]?;have aT:=xP l;unfold fC at aT ⊢
   rwa [aT]at this
  refine A.seq (A.cond (b:=false) a6 (λh=>by cases h) λ_=>A.exit ?_);exact bN seen _ g aX aE
 .refine ext _ true _ _ rfl ?_;rw[a5 seen g];obtain⟨aZ,a4⟩:=mem_left ai;obtain⟨i,ab⟩:=List.getElem?_of_mem aZ;have ab:es[i]?=some e:=by simpa using ab
  have bg:i<l.length:=by have:=(Array.getElem?_eq_some_iff.1 ab).1;omega
  have bE:i∉p:=λh=>by
   have:=(ae i e ab).2 h;rw[a4]at this;cases this
  have bh:l[i]?=some (l[i].1,l[i].2):=List.getElem?_eq_getElem bg;have dr:(p++[i]).Nodup:=by grind
  have aM:∀j∈p++[i],j<l.length:=λj D=>by
   rcases List.mem_append.1 D with D|D
   .exact aq j D
   .grind
  have bk:fC l (p++[i])=fC l p++[(l[i].1,l[i].2)]:=by
   unfold fC
   grind
  refine A.seq (A.cond (b:=true) a9 (λ_=>A.skip ?_) λh=>by cases h);refine(body seen e i l[i].1 l[i].2 _ g ab bh (by
   have ag:=I7 dr (b:=List.range l.length) λj D=>List.mem_range.2 (aM j D);have aU:(fC l p).length<=p.length:=List.length_filterMap_le ..;rw[List.length_range,List.length_append]at ag;simp only[List.length_cons,List.length_nil]at ag;omega) aE).mono λex aD X ax=>?_
  cases ex with
  |normal=>
   obtain⟨af,bj,bf⟩:=ax;refine⟨(seen.push e.born,af),⟨p++[i],dr,aM,λj aA D=>?_,by rw[bk];exact bj⟩,left_shrinks es seen e ai,bf⟩;rw[contains_push,Bool.or_eq_true,beq_iff_eq,ae j aA D,List.mem_append,List.mem_singleton];constructor
   .rintro(h|h)
    .exact .inl h
    .right;have aG:es.toList[j]?=some aA:=by simpa using D
     have aI:es.toList[i]?=some e:=by simpa using ab
     have aF:=(List.getElem?_eq_some_iff.1 aG).1;have aR:=(List.getElem?_eq_some_iff.1 aI).1;have aC:=(List.getElem?_eq_some_iff.1 aG).2;have aB:=(List.getElem?_eq_some_iff.1 aI).2;have pw:=List.pairwise_iff_getElem.1 f2;rcases Nat.lt_trichotomy j i with q|q|q
     .refine absurd ?_ (pw j i (by simpa using aF) (by simpa using aR) q);rw[List.getElem_map,List.getElem_map,aC,aB,h]
     .exact q
     .refine absurd ?_ (pw i j (by simpa using aR) (by simpa using aF) q);rw[List.getElem_map,List.getElem_map,aC,aB,h]
   .rintro(h|h)
    .exact .inl h
    .subst h;rw[ab]at D;cases D;exact .inr rfl
  |_=>exact ax
def A.Rf{S α:Type}{G:bQ}{σ:W}{env:ah}{X:Exit->ah->W->Prop}{k:IntKind}{enc:α->U}{l:List (Int×α)}{id b t1 t2 it bz clock:Nat}{es:dK}{O F:Oper}{y:Code}
  (Inv:List (Int×α)->S->Prop) (Q:S) (D:S->ah) (u:iz->S->W) (ao:O.op=.next (.tmp it) false/\O.dst=some t1/\O.guard=none) (an:F.op=.extract (.tmp t1) 0/\F.dst=some t2/\F.guard=none) (Z:mE G.N #[O,F]=true)
  (aq:Inv [] Q) (hit:∀g,(D g).get it=.ptr bz 0) (aw:∀seen g,(u seen g).get bz=some (.gD es clock (bg k enc l) seen))
  (am:∀seen g ab,(u seen g).set bz (.gD es clock (bg k enc l) ab)=u ab g) (ag:bJ G env σ (D Q) (u #[] Q))
  (body:∀(seen:iz) (e:MapEntry) (i:Nat) (n:Int) (v:α) (p:List (Int×α)) (g:S),es[i]?=some e->l[i]?=some (n,v)->Inv p g->
   ar G y (kI (λak ai=>∃aa,Inv (p++[(n,v)]) aa/\bJ G ak ai (D aa) (u (seen.push e.born) aa)) X) ((t2,.bool true)::(t1,.bO [.bool true,.dg,.dg])::D g) (u (seen.push e.born) g))
  (bN:∀seen p g,p.Perm l->Inv p g->X (.exit b) ((t2,.bool false)::(t1,.bO [.bool false])::D g) (u seen g)) :
  ar G (.loop (.seq (.region id #[O,F] false) (.seq (.cond (.tmp t2) .skip (.exit b)) y))) X env σ:=
 A.Rg (dz:=λn=>.int k n) Inv Q D u ao an Z aq hit aw am ag (λseen e i n v p g ax ae _ af=>body seen e i n v p g ax ae af) bN
end
section
section
variable {P:Program}
def x2(SA:Nat)(op:Op)(env:ah)(σ:W):Option (bP×bL):=match op with
 |.indexAddr a x y=>(match env.bS x with
  |some (.own d)=>(match env.bS y with
   |some (.int k i)=>(match σ.get d with
    |some (.eR b xs t)=>bif Nat.beq a SA then some (.y [d] (.ptr d i.toNat),([.int .i64 i],[(0,.eR 0 xs 0)]))else none
    |_=>none)
   |_=>none)
  |_=>none)
 |_=>none
variable {N SA:Nat}{SC:bL}{env:ah}{o:Oper}{xs:List (List U)}{σ:W}
def NN{E:Nat}{i:Int}(f:g8 P SA E 1)(hi:0<=i/\i<(xs.length:Int)+1){ids:cg}{s:bP}
  (a:x2 SA o.op env σ=some (s,SC)) (h:SC=([.int .i64 i],[(0,.eR 0 xs 0)])):c7 ⟨P,N,ids⟩ o env σ s:=by
 cases b:o.op<;>rw[b]at a
 case indexAddr T x y=>
  simp only[x2]at a;split at a
  .rename_i n c;split at a
   .rename_i k m d;split at a
    .rename_i j l p e;obtain⟨g,⟨⟩⟩:=dG a;obtain rfl:=Nat.eq_of_beq_eq_true g;cases h;exact awO b (auS c) (auS d) e f hi
    .cases a
   .cases a
  .cases a
 all_goals (simp only[x2]at a;cases a)
def p1{SA E:Nat}{xs:List (List U)}{i:Int}(a:g8 P SA E 1)(hi:0<=i/\i<(xs.length:Int)+1):Hint P:=
 .gs false ([.int .i64 i],[(0,.eR 0 xs 0)]) (λ_=>x2 SA) λ_ _ _ _ _ _ _ b c=>NN a hi b c
def x3(SA:Nat)(op:Op)(env:ah)(σ:W):Option (bP×bL):=match op with
 |.load a x=>(match env.bS x with
  |some (.ptr d p)=>(match σ.get d with
   |some (.eR c xs t)=>(match σ.get t with
    |some b=>bif Nat.beq a SA&&b.AA then some (.y [d,t] (.cc t),([.ptr 0 p],[(0,.eR 0 xs 0)]))else none
    |_=>none)
   |_=>none)
  |_=>none)
 |_=>none
variable {p:Nat}
def NO(h:dN P SA 1 false)(f:p=xs.length){ids:cg}{s:bP}
  (a:x3 SA o.op env σ=some (s,SC)) (i:SC=([.ptr 0 p],[(0,.eR 0 xs 0)])):c7 ⟨P,N,ids⟩ o env σ s:=by
 cases c:o.op<;>rw[c]at a
 case load T x=>
  simp only[x3]at a;split at a
  .rename_i n l d;split at a
   .rename_i j m q g;split at a
    .rename_i k e;obtain⟨b,⟨⟩⟩:=dG a;simp only[Bool.and_eq_true]at b;obtain rfl:=Nat.eq_of_beq_eq_true b.1;cases i;exact awP c (auS d) g f e b.2 h
    .cases a
   .cases a
  .cases a
 all_goals (simp only[x3]at a;cases a)
def gK{SA p:Nat}{xs:List (List U)}(b:dN P SA 1 false)(a:p=xs.length):Hint P:=
 .gs false ([.ptr 0 p],[(0,.eR 0 xs 0)]) (λ_=>x3 SA) λ_ _ _ _ _ _ _ c d=>NO b a c d
def x4(SA:Nat)(a:U)(op:Op)(env:ah)(σ:W):Option (bP×bL):=match op with
 |.load b x=>(match env.bS x with
  |some (.ptr d p)=>(match σ.get d with
   |some (.eR c xs t)=>bif Nat.beq b SA then some (.y [d] a,([.ptr 0 p],[(0,.eR 0 xs 0)]))else none
   |_=>none)
  |_=>none)
 |_=>none
def NP{a:U}(g:dN P SA 1 false)(e:xs[p]?=some [a]){ids:cg}{s:bP}
  (b:x4 SA a o.op env σ=some (s,SC)) (i:SC=([.ptr 0 p],[(0,.eR 0 xs 0)])):c7 ⟨P,N,ids⟩ o env σ s:=by
 cases c:o.op<;>rw[c]at b
 case load T x=>
  simp only[x4]at b;split at b
  .rename_i m k d;split at b
   .rename_i j l n f;obtain⟨h,⟨⟩⟩:=dG b;obtain rfl:=Nat.eq_of_beq_eq_true h;cases i;exact awQ c (auS d) f e g
   .cases b
  .cases b
 all_goals (simp only[x4]at b;cases b)
def vK{SA p:Nat}{xs:List (List U)}{a:U}(c:dN P SA 1 false)(b:xs[p]?=some [a]):Hint P:=
 .gs false ([.ptr 0 p],[(0,.eR 0 xs 0)]) (λ_=>x4 SA a) λ_ _ _ _ _ _ _ d e=>NP c b d e
def x1(SA c5 d2:Nat)(ids:cg)(op:Op)(env:ah)(σ:W):Option (bP×bL):=match op with
 |.call c=>(match c.callee with
  |.builtin b=>(match b with
   |.append=>(match c.args.toList with
    |[s,x]=>(match c.argTypes.toList with
     |[f,g]=>(match env.bS s with
      |some (.own d)=>(match σ.get d with
       |some (.slice a 1 xs 0 i)=>(match env.bS x with
        |some (.dr (.pU 1) e)=>(match σ.get e with
         |some (.cells h [.cc t])=>bif Nat.beq f SA&&Nat.beq g SA&&Nat.beq a c5&&!ids.contains d2&&(σ.minus [d]).clean [d2].contains&&!Nat.beq e d&&!Nat.beq t d then
           some (.e [d,d2] [d2] (.own d2) ((d2,.eR a xs t)::σ.minus [d]),([],[(0,.eR 0 xs 0)]))else none
         |_=>none)
        |_=>none)
       |_=>none)
      |_=>none)
     |_=>none)
    |_=>none)
   |_=>none)
  |_=>none)
 |_=>none
variable {c5:Nat}
theorem NQ{bytes d2:Nat}(m:gO P SA c5 1 bytes)(i:(xs.length+1)*bytes<=140737488355328)(v:xs.length+1<=maxLen){ids:cg}{s:bP}
  (a:x1 SA c5 d2 ids o.op env σ=some (s,SC)) (x:SC=([],[(0,.eR 0 xs 0)])):c7 ⟨P,N,ids⟩ o env σ s:=by
 cases b:o.op<;>rw[b]at a
 case call c=>
  obtain⟨G,args,z⟩:=c;simp only[x1]at a;split at a
  .rename_i E;split at a
   .split at a
    .rename_i y A q;have:args=#[y,A]:=Array.toList_inj.1 (by simpa using q);subst this;split at a
     .rename_i k u w;have:z=#[k,u]:=Array.toList_inj.1 (by simpa using w);subst this;split at a
      .rename_i H r;split at a
       .rename_i B C F t;split at a
        .rename_i I f;split at a
         .rename_i D J cS;obtain⟨e,⟨⟩⟩:=dG a;simp only[Bool.and_eq_true,Bool.not_eq_true']at e;obtain⟨⟨⟨⟨⟨⟨j,h⟩,g⟩,d⟩,l⟩,n⟩,p⟩:=e;have:=Nat.eq_of_beq_eq_true j;subst this
          have:=Nat.eq_of_beq_eq_true h;subst this
          have:=Nat.eq_of_beq_eq_true g;subst this
          cases x;exact⟨axp b (auS r) t (auS f) cS m rfl i v d l (Nat.ne_of_beq_eq_false n) (Nat.ne_of_beq_eq_false p),by simp only[List.all_cons,List.all_nil,d];rfl⟩
         .grind
        .grind
       .cases a
      .cases a
     .cases a
    .cases a
   .cases a
  .cases a
 all_goals (simp only[x1]at a;cases a)
def GQ{SA c5 bytes:Nat}(d2:Nat){xs:List (List U)}(b:gO P SA c5 1 bytes)(a:(xs.length+1)*bytes<=140737488355328)(c:xs.length+1<=maxLen):Hint P:=
 .gs true ([],[(0,.eR 0 xs 0)]) (x1 SA c5 d2) λ_ _ _ _ _ _ _ d e=>NQ b a c d e
def wB{α:Type}(SA b c5:Nat)(k:IntKind)(n:Int)(z:Value)(l:List (Int×α))(enc:α->U)(h:α)(es:dK)(clock:Nat)(op:Op)(env:ah)(σ:W):Option (bP×bL):=match op with
 |.mapEntry a x y=>(match env.bS x with
  |some (.cc d)=>(match env.bS y with
   |some (.int e f)=>(match σ.get d with
    |some (.er g c K E i)=>bif Nat.beq a SA&&Nat.beq K b&&Nat.beq E c5 then some (.e [d] [] (.bO [.dg,.int .i64 (hw k n es clock:Int)]) (σ.set d (.er (gr k n z es clock) (j7 k n es clock) K E (bg k enc (bc l n ((ay l n).getD h))))),
      ([.b8 i,.int e f],[(0,.er g c 0 0 [])]))else none
    |_=>none)
   |_=>none)
  |_=>none)
 |_=>none
variable {clock:Nat}{es:dK}{k:IntKind}{z:Value}{α:Type}{enc:α->U}{l:List (Int×α)}
def NR{d:Nat}{n:Int}{b:α}(p:gi P SA d c5 k)(t:∀w,(zeroValue c5).run P w=.ok z w)(q:∀I,aN I (enc b) z){ids:cg}{s:bP}
  (a:wB SA d c5 k n z l enc b es clock o.op env σ=some (s,SC)) (r:SC=([.b8 (bg k enc l),.int k n],[(0,.er es clock 0 0 [])])):c7 ⟨P,N,ids⟩ o env σ s:=by
 cases c:o.op<;>rw[c]at a
 case mapEntry T x y=>
  simp only[wB]at a;split at a
  .rename_i F f;split at a
   .rename_i A B i;split at a
    .rename_i C E v u D m;obtain⟨e,⟨⟩⟩:=dG a;simp only[Bool.and_eq_true]at e;obtain⟨⟨j,h⟩,g⟩:=e;have:=Nat.eq_of_beq_eq_true j;subst this
     have:=Nat.eq_of_beq_eq_true h;subst this
     have:=Nat.eq_of_beq_eq_true g;subst this
     cases r;exact⟨axh l enc b c (auS f) (auS i) m p t q,rfl⟩
    .cases a
   .cases a
  .cases a
 all_goals (simp only[wB]at a;cases a)
def GO{α:Type}{SA a c5:Nat}{k:IntKind}{z:Value}(n:Int)(l:List (Int×α))(enc:α->U)(b:α)(es:dK)(clock:Nat)(c:gi P SA a c5 k)(g:∀w,(zeroValue c5).run P w=.ok z w)(d:∀I,aN I (enc b) z):Hint P:=
 .gs true ([.b8 (bg k enc l),.int k n],[(0,.er es clock 0 0 [])]) (λ_=>wB SA a c5 k n z l enc b es clock) λ_ _ _ _ _ _ _ e f=>NR c g d e f
def vE{α:Type}(k:IntKind)(n:Int)(l:List (Int×α))(enc:α->U)(a:α)(op:Op)(env:ah)(σ:W):Option (bP×bL):=match op with
 |.entryStore h x y v=>(match env.bS x with
  |some (.cc d)=>(match env.bS y with
   |some (.int e b)=>(match env.bS v with
    |some g=>(match σ.get d with
     |some (.er es c K E f)=>some (.e [d] [] .undef (σ.set d (.map K E (bg k enc (bc l n a)))),([.b8 f,.int e b,g],[(0,.er es c 0 0 [])]))
     |_=>none)
    |_=>none)
   |_=>none)
  |_=>none)
 |_=>none
def NS{n:Int}{a a0:α}(e:ay l n=some a0)(i:(enc a).closed=true){ids:cg}{s:bP}
  (b:vE k n l enc a o.op env σ=some (s,SC)) (j:SC=([.b8 (bg k enc l),.int .i64 (hw k n es clock:Int),enc a],[(0,.er (gr k n z es clock) (j7 k n es clock) 0 0 [])])):c7 ⟨P,N,ids⟩ o env σ s:=by
 cases c:o.op<;>rw[c]at b
 case entryStore T x y v=>
  simp only[vE]at b;split at b
  .rename_i B d;split at b
   .rename_i q t g;split at b
    .rename_i w f;split at b
     .rename_i r A p m u h;cases b;cases j;exact⟨axj l enc a c (auS d) (auS g) (auS f) i h e,rfl⟩
     .cases b
    .cases b
   .cases b
  .cases b
 all_goals (simp only[vE]at b;cases b)
def fU{α:Type}{k:IntKind}{a0:α}(n:Int)(z:Value)(l:List (Int×α))(enc:α->U)(a:α)(es:dK)(clock:Nat)(b:ay l n=some a0)(c:(enc a).closed=true):Hint P:=
 .gs true ([.b8 (bg k enc l),.int .i64 (hw k n es clock:Int),enc a],[(0,.er (gr k n z es clock) (j7 k n es clock) 0 0 [])]) (λ_=>vE k n l enc a) λ_ _ _ _ _ _ _ d e=>NS (z:=z) b c d e
def vF(bz:Nat)(a:U)(op:Op)(env:ah)(σ:W):Option (bP×bL):=match op with
 |.entry x=>(match env.bS x with
  |some (.ptr b 0)=>(match σ.get bz with
   |some (.gD es c d seen)=>bif Nat.beq b bz then some (.y [bz] a,([.b8 d],[(0,.gD es c [] seen)]))else none
   |_=>none)
  |_=>none)
 |_=>none
def NT{bz i:Nat}{seen:iz}{e:MapEntry}{n:Int}{v:α}(g:es[i]?=some e)(j:l[i]?=some (n,v)){ids:cg}{s:bP}
  (a:vF bz (.bO [.int k n,enc v]) o.op env σ=some (s,SC)) (d:SC=([.b8 (bg k enc l)],[(0,.gD es clock [] (seen.push e.born))])):c7 ⟨P,N,ids⟩ o env σ s:=by
 cases c:o.op<;>rw[c]at a
 case entry x=>
  simp only[vF]at a;split at a
  .rename_i m f;split at a
   .rename_i p t r q h;cases b:Nat.beq m bz with
    |false=>rw[b]at a;cases a
    |true=>
     rw[b]at a;have:=Nat.eq_of_beq_eq_true b;subst this;cases a;simp only[Prod.mk.injEq,List.cons.injEq,U.b8.injEq,b1.gD.injEq,and_true,true_and]at d;obtain⟨rfl,rfl,rfl,rfl⟩:=d;exact awR l enc c (auS f) h g j
   .cases a
  .cases a
 all_goals (simp only[vF]at a;cases a)
def r3{α:Type}{es:dK}{i:Nat}{e:MapEntry}{n:Int}{v:α}{l:List (Int×α)}(bz clock:Nat)(k:IntKind)(seen:iz)(enc:α->U)(a:es[i]?=some e)(b:l[i]?=some (n,v)):Hint P:=
 .gs false ([.b8 (bg k enc l)],[(0,.gD es clock [] (seen.push e.born))]) (λ_=>vF bz (.bO [.int k n,enc v])) λ_ _ _ _ _ _ _ c d=>NT a b c d
end
end
section
variable {VB:U->W->Prop}{env:ah}{σ:W}
def h4.mono{G:bQ}{fn:Func}{ab:U->W->Prop}{e:Exit}(h:h4 G fn VB e env σ)(aa:∀a s,VB a s->ab a s):h4 G fn ab e env σ:=by
 obtain⟨af,ag,ae,Q⟩:=h;refine⟨af,ag,ae,?_⟩;cases e with
 |normal=>obtain⟨bK,x,r,O,X,u,F,D⟩:=Q;exact⟨bK,x,r,O,X,u,F,aa _ _ D⟩
 |ret=>obtain⟨bK,x,r,O,X,u,F,D⟩:=Q;exact⟨bK,x,r,O,X,u,F,aa _ _ D⟩
 |_=>exact Q
variable {N:Nat}{P:Program}{cr:List U}{f:FuncId}
def avR{ids:cg}{cb:W}{o:Oper}{c:Call}{Be:List U}(news:cg)(b:o.op=.call c)(p:mF env c=some (f,Be))(l:k2 cb.ids σ Be=some cr)(m:σ.at cb.ids=some cb)
  (h:news.all (λd=>!ids.contains d&&(σ.get d).isNone)=true) (i:(σ.minus cb.ids).clean news.contains=true) (k:∀r σ2,VB r σ2->r.refs (λd=>!(cb.ids++news).contains d)=false/\σ2.clean (λd=>!(cb.ids++news).contains d)=true) (j:cI P f cb cr VB) (n:bB P f) :
  eL ⟨P,N,ids⟩ o env.ev σ (cb.ids++news) news (λr e=>∃σ2,VB r σ2/\e=σ2++σ.minus cb.ids):=by
 obtain⟨q,args,s,aR,t,rfl,a,g,rfl⟩:=qK p;exact avP (G:=⟨P,N,ids⟩) (σ:=σ) news b a n.h j g (oP l) (avg m).1 h i k
def AB{P:Program}(bo:ef)(ids:cg)(f:hU)(n:Nat)(b:List hR)(e:List (Nat×Hint P))(env:ah)(σ:W):Option (ah×W×List bL):=match n3 ids b env σ with
 |none=>none
 |some (d,c)=>kN bo ids f ⟨false,[],[]⟩ ((List.range n).map λa=>(a,hintOf e a)) [] d c
def GD{P:Program}(bo:ef)(ids:cg)(b:hU)(n:Nat)(d:List hR)(e:List (Nat×Hint P))(env:ah)(σ:W):Option (FuncId×List U×List bL):=match AB bo ids b n d e env σ with
 |none=>none
 |some (h,s1,g)=>match b[n]? with
  |none=>none
  |some a=>match a.guard with
   |some _=>none
   |none=>match a.op with
    |.call c=>(match mF h c with
     |none=>none
     |some (f,i)=>match k2 [] s1 i with
      |none=>none
      |some cr=>some (f,cr,g))
    |_=>none
def GF{P:Program}(bo:ef)(ids:cg)(a:hU)(n:Nat)(g:cg)(f:List hR)(h c0:List (Nat×Hint P))(env:ah)(σ:W)(bt:U)(ks b:cg):Option (ah×W×List bL):=match AB bo ids a n f h env σ with
 |none=>none
 |some (j,s1,_)=>match a[n]? with
  |none=>none
  |some l=>match kN bo ids a ⟨false,[],[]⟩ (g.map λd=>(d,hintOf c0 d)) [] (j.put l.dst bt) s1 with
   |none=>none
   |some (k,c,i)=>match pI [] b c k ks with
    |none=>none
    |some e=>match c.at b with
     |none=>none
     |some m=>some (e,m,i)
theorem avW{ids:cg}{bo:ef}{o:Exit->ah->W->Prop}{y:Code}(G:fI P bo){id:Nat}{c:hU}(n:Nat)(h:cg)(s:List hR)(j:List (Nat×Hint P))(v:cI P f [] cr VB)(H:bB P f)
  (F:List.range c.size=List.range n++n::h) (D:mE N c=true) (a:GD bo ids c n s j env σ=some (f,cr,(List.range n).map λi=>(hintOf j i).exp)) (t:∀r σ2,VB r σ2->r.refs (λd=>!([]:cg).contains d)=false/\σ2=[])
  (k:∀bt σ2,VB bt σ2->∃(c0:List (Nat×Hint P)) (cu:ah) (σ3:W),GF bo ids c n h s j c0 env σ bt (jY cu) σ3.ids=some (cu,σ3,h.map λi=>(hintOf c0 i).exp)/\ar ⟨P,N,ids⟩ y o cu σ3):ar ⟨P,N,ids⟩ (.seq (.region id c false) y) o env σ:=by
 simp only[GD]at a;split at a
 .cases a
 .rename_i L l V e;split at a
  .cases a
  .rename_i ab p;split at a
   .cases a
   .rename_i u;split at a
    .rename_i aa Q;split at a
     .cases a
     .rename_i X ae J;split at a
      .cases a
      .rename_i Y I;simp only[Option.some.injEq,Prod.mk.injEq]at a;obtain⟨rfl,rfl,w⟩:=a;have C:=e;simp only[AB]at e;split at e
       .grind
       .rename_i U T O;refine auZ (qP O) (A.seq (avo G n h j L l F D (by rw[e,w]) p u (avR (cb:=[]) [] Q J I rfl rfl (avD _) (λr σ2 g=>?_) v H) (avs _) rfl ?_))
        .obtain⟨q,m⟩:=t r σ2 g;exact⟨q,by rw[m];rfl⟩
        .rintro bt R ⟨σ2,g,rfl⟩;obtain⟨q,m⟩:=t bt σ2 g;subst m;obtain⟨c0,cu,σ3,b,x⟩:=k bt [] g;rw[show([]:W)++l.minus (W.ids [])=l from B5 l];simp only[GF,C,p]at b;split at b
         .grind
         .rename_i M K Z z;split at b
          .grind
          .rename_i S E;split at b
           .grind
           .rename_i af kT;simp only[Option.some.injEq,Prod.mk.injEq]at b;obtain⟨rfl,rfl,B⟩:=b;exact⟨c0,M,K,by rw[z,B],auZ (avN (x0 E) (avg kT).1) x⟩
    .cases a
noncomputable def rL{α β:Type}(P:α->Prop)(K:α->Option β):Option β:=@dite _ (∃r,(∃a,P a)/\∀a,P a->K a=some r) (Classical.propDecidable _) (λb=>some (Classical.choose b)) (λ_=>none)
variable {α β:Type}{K:α->Option β}{r:β}
theorem I8{P:α->Prop}(b:rL P K=some r):∀a,P a->K a=some r:=by
 unfold rL at b;split at b
 all_goals grind
theorem Ln{P:α->Prop}(d:∃a,P a)(c:∀a,P a->K a=some r):rL P K=some r:=by
 unfold rL;have b:∃r,(∃a,P a)/\∀a,P a->K a=some r:=⟨r,d,c⟩;rw[dif_pos b]
 grind
end
end
section
set_option linter.all false
open Go
def Dl{I:a2}:∀{xs:List U} {vs:c4} {i:Nat} {a:U},bX I xs vs->xs[i]?=some a->∃v,vs[i]?=some v/\aN I a v
 |[],_,_,_,_,h=>by simp at h
 |x::r,vs,i,a,h,b=>by
  simp only[bX]at h;obtain⟨d,f,rfl,e,c⟩:=h;cases i with
  |zero=>simp only[List.getElem?_cons_zero,Option.some.injEq]at b ⊢;subst b;exact⟨d,rfl,e⟩
  |succ i=>simp only[List.getElem?_cons_succ]at b ⊢;exact Dl c b
def BV{I:a2}{a:U}{v:Value}(c:aN I a v):∀{xs:List U} {vs:c4} (i:Nat),bX I xs vs->bX I (xs.set i a) (vs.set i v)
 |[],vs,i,h=>by simp only[bX]at h;subst h;simp[bX]
 |x::r,vs,i,h=>by
  simp only[bX]at h;obtain⟨e,d,rfl,f,b⟩:=h;cases i with
  |zero=>simp only[List.set_cons_zero,bX];exact⟨v,d,rfl,c,b⟩
  |succ i=>simp only[List.set_cons_succ,bX];exact⟨e,_,rfl,f,BV c i b⟩
def Cf{α:Type}{a:α}:∀{l:List (List α)} (i:Nat),(∀e∈l,e.length=1)->(l.set i [a]).flatten=l.flatten.set i a
 |[],i,_=>by simp
 |x::r,i,h=>by
  have c:=h x (by simp);obtain⟨b,rfl⟩:∃b,x=[b]:=by
   match x,c with
   |[b],_=>exact⟨b,rfl⟩
  cases i with
  |zero=>simp
  |succ i=>simp only[List.set_cons_succ,List.flatten_cons,List.cons_append,List.nil_append];rw[Cf i λe d=>h e (by simp[d])]
theorem Fa{G:bQ}{cx:c2}{I:a2}{β:Nat->Value}{σ:W}{w:World}(c:bG G cx I β σ w){e:Nat}{Tv:List dS}(f:σ.get e=some (.bp Tv)){a:eN}(b:β e=.tuple a):eH cx I w Tv a.toList:=by
 have d:=c.b5 e _ f;simp only[bb,b,Value.tuple.injEq,reduceCtorEq,false_or]at d
 grind
def eH.turn{cx:c2}{I:a2}{w w':World}{b:Nat}{x:dS}(X:∀c,c≠b->c<w.heap.size->w'.heap[c]?=w.heap[c]?):∀{Tv:List dS} {Y:c4},eH cx I w Tv Y->∀{p:Nat} {au:Value},p<Tv.length->Y[p]?=some au->bE au=some b->gp cx I w' x au->eH cx I w' (Tv.set p x) Y
 |[],_,_,p,_,D,_,_,_=>by simp at D
 |y::r,Y,h,p,au,D,hu,O,aa=>by
  simp only[eH]at h;obtain⟨v,vs,rfl,af,u,ab⟩:=h;cases p with
  |zero=>
   simp only[List.getElem?_cons_zero,Option.some.injEq]at hu;subst hu;simp only[List.set_cons_zero,eH];refine⟨v,vs,rfl,aa,u,ab.go (bM.refl I) λc Q=>⟨λF=>X c (λe=>?_) F,λ_=>rfl,id⟩⟩;subst e;exact u c O Q
  |succ p=>
   simp only[List.getElem?_cons_succ]at hu;simp only[List.set_cons_succ,eH];have ae:b∈vs.filterMap bE:=List.mem_filterMap.2 ⟨au,List.mem_of_getElem? hu,O⟩;refine⟨v,vs,rfl,af.go (bM.refl I) λc Q=>⟨λF=>X c (λe=>?_) F,λ_=>rfl,id⟩,u,eH.turn X ab (by simpa using D) hu O aa⟩;subst e;exact u c Q ae
section
variable {G:bQ}{σ:W}{o:Oper}{ev:Operand->U}
variable {T p:Nat}{Tv:List dS}
theorem awY{d e SA n:Nat}{x:Operand}(l:o.op=.load T x)(q:ev x=.ptr d p)(D:σ.get d=some (.cF SA e n none))(J:σ.get e=some (.bp Tv))(P:p<Tv.length)(F:dN G.P T 1 false):
  Yields G o ev σ [] [d,e] (.dr (.row p) e):=
 .pure λO cx I β w M j t K=>by
  have a:=K x (by simp[l,Op.operands]);rw[q]at a
  simp only[az]at a;obtain⟨H,a,r⟩:=a;have z:β d≠.nilFunc:=λe=>by rw[e]at a;cases a
  obtain⟨i,aR,h,b,u,Q,N,s,R,v,W,y,U,S,V,X⟩:=qQ t (by rw[j d (by simp)];exact D) (by rw[j e (by simp)];exact J) z;have A:i=H:=by rw[u]at a;simpa [bE]using a
  subst A;have g:p<b.toList.length:=by simp;omega
  have k:b.toList[p]?=some (b.toList[p]'g):=List.getElem?_eq_getElem g;generalize b.toList[p]'g=c at k;have C:h[p]?=some c:=by
   have:(h.toList.take n)[p]?=b.toList[p]?:=by rw[show h.toList.take n=b.toList from y]
   grind
  have B:∀f,f<1->∃m,[c][f]?=some m/\w.cell? ⟨i,p+f,none⟩=some m:=λf L=>by
   have:f=0:=by omega
   subst this;exact⟨c,rfl,by simp[World.cell?,s,C]⟩
  have E:=m9 F (vs:=[c]) B (λ_=>by omega);exact⟨c,by simp[execOp,l,r,Instr.loadAt,Instr.sureAddr,E],by simp only[az,iU.rep];exact⟨b,v,k⟩⟩
variable {I:a2}{UC sz:Nat}{cx:c2}{w:World}{β:Nat->Value}
theorem E6(i:bG G cx I β σ w){e:Nat}{rows:List (List U)}(q:σ.get e=some (.bp Tv))(m:Tv[p]?=some (.sl UC sz rows)){v:Value}(h:(iU.row p).rep (β e) v)(l:rows≠[]):
  ∃a b aR c,β e=.tuple a/\a.toList[p]?=some v/\eH cx I w Tv a.toList/\v=.slice (some ⟨b,0,none⟩) rows.length aR/\rows.length<=aR/\aR<=maxLen/\w.heap[b]?=some (.cells c UC (0,0))/\c.size=aR*sz/\
    bX I rows.flatten (c.toList.take (rows.length*sz))/\(∀e∈rows,e.length=sz)/\(∀o:Nat,I b o=none)/\Place cx b:=by
 obtain⟨a,j,k⟩:=h;have g:=Fa i q j;obtain⟨r,d,f⟩:=g.get m;rw[k]at d;cases d;rcases f with⟨_,n⟩|⟨b,aR,c,d,f,s,t,u,x,y,z,A⟩
 .exact absurd n l
 .grind
variable {E:Nat}
def awB{e:Nat}{rows:List (List U)}{x y:Operand}{k:IntKind}{i:Int}(b:o.op=.indexAddr T x y)(j:ev x=.dr (.row p) e)(l:ev y=.int k i)(z:σ.get e=some (.bp Tv))(u:Tv[p]?=some (.sl UC sz rows))(f:g8 G.P T E sz)
  (hi:0<=i/\i<rows.length):Yields G o ev σ [] [e] (.dr (.jb p (i.toNat*sz)) e):=
 .pure λC cx I β w A r m h=>by
  have c:=h x (by simp[b,Op.operands]);rw[j]at c
  have a:=h y (by simp[b,Op.operands]);rw[l]at a;have a:=fW a
  simp only[az]at c;obtain⟨s,g,aR,N,n,q,_,d,B,F,D,L,M,J,H,K⟩:=E6 m (by rw[r e (by simp)];exact z) u c (λe=>by rw[e]at hi;simp at hi;omega);have v:∀w,(underlying T).run G.P w=.ok (.slice E) w:=λw=>by simp[underlying,program,Sem.run,f.ee]
  have t:0<=i/\i<(rows.length:Int):=by omega
  refine⟨.pointer (some ⟨g,i.toNat*sz,none⟩),by simp[execOp,b,a,d,Instr.indexAt,asIntOf,v,t,f.size,g2],?_⟩;simp only[az,iU.rep];exact⟨s,_,g,n,q,by rw[d];rfl,rfl⟩
theorem awS{e:Nat}{rows:List (List U)}{x:Operand}{VO}(g:o.op=.call ⟨.builtin .len,#[x],VO⟩)(v:VO=#[T])(h:ev x=.dr (.row p) e)(u:σ.get e=some (.bp Tv))(s:Tv[p]?=some (.sl UC sz rows))(r:G.P.underlying T=some (.slice E)):
  Yields G o ev σ [] [e] (.int .i64 (rows.length:Int)):=
 .pure λz cx I β w i q k y=>by
  subst v;have c:=y x (by simp[g,Op.operands,Call.operands]);rw[h]at c
  simp only[az]at c;have a:∃d f,i x=.slice d rows.length f:=by
   obtain⟨C,l,m⟩:=c;have j:=Fa k (by rw[q e (by simp)];exact u) l;obtain⟨A,b,n⟩:=j.get s;rw[m]at b;cases b;rcases n with⟨H,B⟩|⟨F,aR,D,b,_⟩
   all_goals grind
  obtain⟨d,f,a⟩:=a;have t:∀w,(underlying T).run G.P w=.ok (.slice E) w:=λw=>by simp[underlying,program,Sem.run,r]
  exact⟨.int .i64 rows.length,by simp[execOp,g,resolve,invoke,builtin,Builtin.len_,a,t,goInt],by simp[az,aN]⟩
def DF(n:bG G cx I β σ w){e off:Nat}{rows:List (List U)}(u:σ.get e=some (.bp Tv))(t:Tv[p]?=some (.sl UC sz rows)){v:Value}(m:(iU.jb p off).rep (β e) v)(r:rows≠[]):
  ∃a c b aR d,β e=.tuple a/\a.toList[p]?=some c/\bE c=some b/\eH cx I w Tv a.toList/\v=.pointer (some ⟨b,off,none⟩)/\c=.slice (some ⟨b,0,none⟩) rows.length aR/\rows.length<=aR/\aR<=maxLen/\w.heap[b]?=some (.cells d UC (0,0))/\d.size=aR*sz/\
    bX I rows.flatten (d.toList.take (rows.length*sz))/\(∀e∈rows,e.length=sz)/\(∀o:Nat,I b o=none)/\Place cx b:=by
 obtain⟨a,c,b,g,i,f,l⟩:=m;obtain⟨y,h,aR,d,j,x,q,k,s⟩:=E6 n u t (v:=c) ⟨a,g,i⟩ r;have:h=b:=by rw[k]at f;simpa [bE]using f
 subst this;rw[g]at j;cases j;exact⟨a,c,h,aR,d,g,i,f,q,l,k,s⟩
theorem awv{e off:Nat}{rows:List (List U)}{x:Operand}{a:U}(h:o.op=.load T x)(i:ev x=.dr (.jb p off) e)(A:σ.get e=some (.bp Tv))(v:Tv[p]?=some (.sl UC sz rows))(d:rows.flatten[off]?=some a)(u:dN G.P T 1 false):
  Yields G o ev σ [] [e] a:=
 .pure λH cx I β w D m j B=>by
  have f:=B x (by simp[h,Op.operands]);rw[i]at f
  simp only[az]at f;obtain⟨Q,W,z,aR,y,J,K,E,F,k,L,O,P,n,N,q,R,S,V⟩:=DF j (by rw[m e (by simp)];exact A) v f (λe=>by rw[e]at d;simp at d);obtain⟨c,M,l⟩:=Dl q d;have s:y[off]?=some c:=by grind
  have r:∀b,b<1->∃g,[c][b]?=some g/\w.cell? ⟨z,off+b,none⟩=some g:=λb C=>by
   have:b=0:=by omega
   subst this;exact⟨c,rfl,by simp[World.cell?,n,s]⟩
  have t:=m9 u (vs:=[c]) r (λ_=>by omega);exact⟨c,by simp[execOp,h,k,Instr.loadAt,Instr.sureAddr,t],aN.rep _ _ _ l⟩
theorem axg{e off:Nat}{rows:List (List U)}{x y:Operand}{a:U}(m:o.op=.store T x y)(K:ev x=.dr (.jb p off) e)(c:ev y=a)(g:a.closed=true)(aq:a.one=true)(F:σ.get e=some (.bp Tv))(D:Tv[p]?=some (.sl UC 1 rows))(s:off<rows.length)(am:dN G.P T 1 false):
  eL G o ev σ [e] [] (λr O=>r=.undef/\O=(e,.bp (Tv.set p (.sl UC 1 (rows.set off [a]))))::σ.minus [e]):=by
 intro cx I β w d h J;have n:=J x (by simp[m,Op.operands]);rw[K]at n
 have j:=J y (by simp[m,Op.operands]);rw[c]at j
 simp only[az]at n;obtain⟨z,E,b,aR,f,Q,t,q,L,X,R,Z,ab,k,aw,Y,ag,B,C⟩:=DF h F D n (λe=>by rw[e]at s;simp at s);have v:=avX aq j;have an:=az.closed _ _ g j;have ai:=p2 (P:=G.P) k [d y] (off:=off) (by simp;omega) (λaD N=>by rw[List.mem_singleton.1 N];exact v.1);have aa:(execOp d o).run G.P w=.ok .skip (w.setRow b (ei f.toList off [d y]).toArray):=by
  have aB:((#[d y]:eN).size≠1)=False:=by simp
  simp[execOp,m,X,Instr.storeAt,Instr.sureAddr,storeVar,am.size,v.2,ai]
 rw[aa];have fU:(σ.get e).isSome:=by rw[F];rfl
 have H:dW w (w.setRow b (ei f.toList off [d y]).toArray) b:=dW.setRow w b _;have ao:b∈b3 (β e):=by rw[Q,hX];exact List.mem_filterMap.2 ⟨E,List.mem_of_getElem? t,q⟩
 have ak:ei f.toList off [d y]=f.toList.set off (d y):=by
  apply List.ext_getElem?;intro i;simp only[ei,List.length_singleton]
  grind
 have ae:gp cx I (w.setRow b (ei f.toList off [d y]).toArray) (.sl UC 1 (rows.set off [a])) E:=by
  refine .inr ⟨b,aR,_,by rw[R,List.length_set],by rw[List.length_set];exact Z,ab,setRow_heap w b f _ UC _ k,?_,?_,?_,B,C⟩
  .grind
  .rw[Cf off ag,List.length_set,ak];have:=BV an off Y;rw[<-List.take_set]at this;simpa using this
  .grind
 have af:p<Tv.length:=(List.getElem?_eq_some_iff.1 D).1;have aA:=eH.turn (λl g V=>H.block l g V) L af t q ae
 have A:∀y,y≠e->W.get ((e,b1.bp (Tv.set p (.sl UC 1 (rows.set off [a]))))::σ.minus [e]) y=σ.get y:=λy c=>by
  rw[auU,if_neg (Ne.symm c),avc,if_neg (by simpa using c)]
 refine⟨.undef,_,I,β,⟨rfl,rfl⟩,by simp[az,aN],?_,bM.refl I,λ_ _=>rfl,λy c=>A y (by simpa using c)⟩;refine h.redo (M:=[e]) (news:=[]) (b:=b) (cV:=β) H (λo=>?_) (λy c z S=>?_) C (λy c=>A y (by simpa using c)) (λ_ _=>rfl) (λy c=>by cases c) (λy o _ _=>?_) (λy c o u=>?_) (λy c c0 l g=>?_) (λy c aE aC ax dM c0 l g ar=>?_)
 .cases o with
  |none=>exact h.kW k
  |some o=>exact B o
 .exact h.cA e y fU z (λe=>c (by simp[e])) b ao S
 .exact wP (λ_=>rfl) o
 .simp only[List.mem_singleton]at c;subst c;rw[auU,if_pos rfl]at u;cases u;simp only[bb]
  grind
 .grind
 .grind
end
theorem DG{cx:c2}{I a:a2}{w:World}{α:Type}{T sz:Nat}{enc:α->List U}(bA:bM I a):∀(l:List (List α)) (vs:c4),eH cx I w (encS T sz enc l) vs->(∀b∈vs.filterMap bE,∀o,a b o=eu w b o)->bX a (l.map λr=>[U.aL false (r.map enc)]).flatten vs
 |[],vs,h,_=>by simp only[encS,List.map_nil,eH]at h;subst h;simp[bX]
 |r::l,vs,h,e=>by
  simp only[encS,List.map_cons,eH]at h;obtain⟨g,d,rfl,i,_,f⟩:=h;simp only[List.map_cons,List.flatten_cons,List.cons_append,List.nil_append,bX];refine⟨g,d,rfl,gp.aL i bA λb c=>e b (by simp[c]),DG bA l d f λb c=>e b ?_⟩;rw[List.filterMap_cons];split
  .exact c
  .grind
theorem avM{G:bQ}{env:ah}{σ:W}{α:Type}{aM sz T d e n:Nat}(l:List (List α))(enc:α->List U)(s:σ.get d=some (.cF T e n none))(k:σ.get e=some (.bp (encS aM sz enc l))):
  bJ G env σ env ((d,.slice T 1 (l.map λr=>[.aL false (r.map enc)]) 0 false)::σ.minus [d,e]):=λcx I β ae w g E=>by
 have gn:d≠e:=λM=>by subst M;rw[s]at k;cases k
 have v:(σ.get d).isSome:=by rw[s];rfl
 have fU:(σ.get e).isSome:=by rw[k];rfl
 let m:a2:=λa o=>if a∈b3 (β e)then eu w a o else I a o
 have p:∀a,a∈b3 (β e)->∀o,m a o=eu w a o:=λa c o=>if_pos c;have j:∀a,¬(a∈b3 (β e))->∀o,m a o=I a o:=λa c o=>if_neg c
 have bA:bM I m:=λa o i h=>by
  by_cases c:a∈b3 (β e)
  .rw[p a c];exact g.zH a o i h
  .grind
 have S:∀a,a∈b3 (β e)->Place cx a:=λa c=>(g.tY k c).2
 have C:∀b o,W.get ((d,.slice T 1 (l.map λr=>[.aL false (r.map enc)]) 0 false)::σ.minus [d,e]) b=some o->(b=d/\o=.slice T 1 (l.map λr=>[.aL false (r.map enc)]) 0 false)\/(b≠d/\b≠e/\σ.get b=some o):=λb o f=>by
  rw[auU,avc]at f;split at f
  .grind
  .grind
 have z:∀b,(W.get ((d,b1.slice T 1 (l.map λr=>[.aL false (r.map enc)]) 0 false)::σ.minus [d,e]) b).isSome->(σ.get b).isSome:=λb f=>by
  obtain⟨o,f⟩:=Option.isSome_iff_exists.1 f;rcases C b o f with⟨rfl,_⟩|⟨_,_,f⟩
  .exact v
  .rw[f];rfl
 refine⟨m,β,{g with good:=λa o i h=>?_,eD:=λa i h=>?_,fK:=g.fK.trans bA,fB:=λa c y o=>?_,b5:=λb o f=>?_,cA:=λb D f J=>g.cA b D (z b f) (z D J)},E.mono bA (en.refl β)⟩
 .by_cases c:a∈b3 (β e)
  .rw[p a c]at h;exact qz a o i h
  .rw[j a c]at h;exact g.good a o i h
 .by_cases c:a∈b3 (β e)
  .rw[p a c]at h;exact qn a i h
  .rw[j a c]at h;exact g.eD a i h
 .have:¬(a∈b3 (β e)):=λX=>by
   rcases S a X with q|q
   .omega
   .exact y q
  rw[j a this];exact g.fB a c y o
 .rcases C b o f with⟨rfl,rfl⟩|⟨ab,V,f⟩
  .by_cases u:β b=.nilFunc
   .simp only[bb];exact .inl u
   obtain⟨a,aR,B,x,t,K,F,H,N,L,aa,R,P,O,Q,Y⟩:=qQ g s k u;have A:l.length=n:=by simpa [encS]using Y
   have Z:¬a∈b3 (β e):=g.cA b e v fU gn a (gv (by rw[t];rfl));simp only[bb];refine .inr (.inr ⟨a,aR,B,by rw[t];simp[A],by simp[A];exact K,F,H,by simpa using N,?_,λe af=>?_,Nat.zero_le _,(λg=>by cases g),(λo _=>by rw[j a Z];exact P o),O⟩)
   .have:=DG bA l x.toList Q λa c=>p a (by rw[L,hX];exact c);rw[<-show B.toList.take n=x.toList from R]at this
    grind
   .grind
  .exact(g.b5 b o f).Gh bA λa c=>j a λq=>g.cA b e (by rw[f];rfl) fU V a c q
section
variable {P:Program}
def w2(SA:Nat)(op:Op)(env:ah)(σ:W):Option (bP×bL):=match op with
 |.load T x=>(match env.bS x with
  |some (.ptr d p)=>(match σ.get d with
   |some (.cF UC e n none)=>(match σ.get e with
    |some (.bp Tv)=>bif Nat.beq T SA then some (.y [d,e] (.dr (.row p) e),([.ptr 0 p],[(0,.bp Tv)]))else none
    |_=>none)
   |_=>none)
  |_=>none)
 |_=>none
variable {N SA p:Nat}{SC:bL}{Tv:List dS}{env:ah}
def NV(g:dN P SA 1 false)(e:p<Tv.length){o:Oper}{ids:cg}{σ:W}{s:bP}
  (a:w2 SA o.op env σ=some (s,SC)) (i:SC=([.ptr 0 p],[(0,.bp Tv)])):c7 ⟨P,N,ids⟩ o env σ s:=by
 cases b:o.op<;>rw[b]at a
 case load T x=>
  simp only[w2]at a;split at a
  .rename_i l j c;split at a
   .rename_i UC m n f;split at a
    .rename_i k d;obtain⟨h,⟨⟩⟩:=dG a;obtain rfl:=Nat.eq_of_beq_eq_true h;cases i;exact awY b (auS c) f d e g
    .cases a
   .cases a
  .cases a
 all_goals (simp only[w2]at a;cases a)
variable {i:Int}{α:Type}
theorem nH{l:List α}{r:α}(a:bq l i=some r):0<=i/\i.toNat<l.length/\l[i.toNat]?=some r:=by
 unfold bq at a
 grind
def jf{α:Type}{SA aM sz:Nat}{enc:α->List U}{l:List (List α)}{i:Int}{r:List α}(c:bq l i=some r)(b:dN P SA 1 false):Hint P:=
 .gs false ([.ptr 0 i.toNat],[(0,.bp (encS aM sz enc l))]) (λ_=>w2 SA) λ_ _ _ _ _ _ _ a d=>NV b (by simpa [encS]using (nH c).2.1) a d
def wX(SA:Nat)(op:Op)(env:ah)(σ:W):Option (bP×bL):=match op with
 |.indexAddr T x y=>(match env.bS x with
  |some (.dr (.row p) e)=>(match env.bS y with
   |some (.int k a)=>(match σ.get e with
    |some (.bp Tv)=>bif Nat.beq T SA then some (.y [e] (.dr (.jb p a.toNat) e),([.dr (.row p) 0,.int .i64 a],[(0,.bp Tv)]))else none
    |_=>none)
   |_=>none)
  |_=>none)
 |_=>none
variable {E UC:Nat}
def NW{j:Int}{rows:List (List U)}(i:Tv[p]?=some (.sl UC 1 rows))(g:g8 P SA E 1)(d:0<=j/\j<rows.length){o:Oper}{ids:cg}{σ:W}{s:bP}
  (a:wX SA o.op env σ=some (s,SC)) (k:SC=([.dr (.row p) 0,.int .i64 j],[(0,.bp Tv)])):c7 ⟨P,N,ids⟩ o env σ s:=by
 cases b:o.op<;>rw[b]at a
 case indexAddr T x y=>
  simp only[wX]at a;split at a
  .rename_i l q c;split at a
   .rename_i r n f;split at a
    .rename_i m e;obtain⟨h,⟨⟩⟩:=dG a;obtain rfl:=Nat.eq_of_beq_eq_true h;cases k;have:=awB (G:=⟨P,N,ids⟩) b (auS c) (auS f) e i g d;rw[Nat.mul_one]at this;exact this
    .cases a
   .cases a
  .cases a
 all_goals (simp only[wX]at a;cases a)
variable {r:List α}{sz:Nat}
def ur{aM:Nat}{enc:α->List U}{l:List (List α)}(a:bq l i=some r):(encS aM sz enc l)[i.toNat]?=some (.sl aM sz (r.map enc)):=by
 simp[encS,(nH a).2.2]
def jR{α:Type}{SA E aM:Nat}{enc:α->List U}{l:List (List α)}{i j:Int}{r:List α}{c:α}(e:bq l i=some r)(a:bq r j=some c)(d:g8 P SA E 1):Hint P:=
 .gs false ([.dr (.row i.toNat) 0,.int .i64 j],[(0,.bp (encS aM 1 enc l))]) (λ_=>wX SA) λ_ _ _ _ _ _ _ b f=>NW (ur e) d (by have:=nH a;rw[List.length_map];omega) b f
def wY(SA:Nat)(a:U)(op:Op)(env:ah)(σ:W):Option (bP×bL):=match op with
 |.load T x=>(match env.bS x with
  |some (.dr (.jb p off) e)=>(match σ.get e with
   |some (.bp Tv)=>bif Nat.beq T SA then some (.y [e] a,([.dr (.jb p off) 0],[(0,.bp Tv)]))else none
   |_=>none)
  |_=>none)
 |_=>none
def NX{off:Nat}{rows:List (List U)}{a:U}(h:Tv[p]?=some (.sl UC sz rows))(i:rows.flatten[off]?=some a)(f:dN P SA 1 false){o:Oper}{ids:cg}{σ:W}{s:bP}
  (b:wY SA a o.op env σ=some (s,SC)) (j:SC=([.dr (.jb p off) 0],[(0,.bp Tv)])):c7 ⟨P,N,ids⟩ o env σ s:=by
 cases c:o.op<;>rw[c]at b
 case load T x=>
  simp only[wY]at b;split at b
  .rename_i k m n d;split at b
   .rename_i l e;obtain⟨g,⟨⟩⟩:=dG b;obtain rfl:=Nat.eq_of_beq_eq_true g;cases j;exact awv c (auS d) e h i f
   .cases b
  .cases b
 all_goals (simp only[wY]at b;cases b)
theorem Kh{enc:α->List U}{f:α->U}(a:∀x,enc x=[f x]){j:Nat}{c:α}(d:r[j]?=some c):(r.map enc).flatten[j]?=some (f c):=by
 have:(r.map enc).flatten=r.map f:=by
  clear d;induction r with
  |nil=>rfl
  |cons x r b=>simp[a,b]
 grind
def hJ{α:Type}{SA aM:Nat}{enc:α->List U}{f:α->U}{l:List (List α)}{i j:Int}{r:List α}{c:α}(g:bq l i=some r)(a:bq r j=some c)(d:∀x,enc x=[f x])(e:dN P SA 1 false):Hint P:=
 .gs false ([.dr (.jb i.toNat j.toNat) 0],[(0,.bp (encS aM 1 enc l))]) (λ_=>wY SA (f c)) λ_ _ _ _ _ _ _ b h=>NX (ur g) (Kh d (nH a).2.2) e b h
def w1(SA:Nat)(b:List dS)(op:Op)(env:ah)(σ:W):Option (bP×bL):=match op with
 |.store T x y=>(match env.bS x with
  |some (.dr (.jb p off) e)=>(match env.bS y with
   |some a=>(match σ.get e with
    |some (.bp Tv)=>bif Nat.beq T SA then some (.e [e] [] .undef ((e,.bp b)::σ.minus [e]),([.dr (.jb p off) 0,a],[(0,.bp Tv)]))else none
    |_=>none)
   |_=>none)
  |_=>none)
 |_=>none
def NY{off:Nat}{d:List dS}{rows:List (List U)}{a:U}(l:a.closed=true)(n:a.one=true)(m:Tv[p]?=some (.sl UC 1 rows))(f:off<rows.length)(i:d=Tv.set p (.sl UC 1 (rows.set off [a])))(k:dN P SA 1 false){o:Oper}{ids:cg}{σ:W}{s:bP}
  (b:w1 SA d o.op env σ=some (s,SC)) (q:SC=([.dr (.jb p off) 0,a],[(0,.bp Tv)])):c7 ⟨P,N,ids⟩ o env σ s:=by
 cases c:o.op<;>rw[c]at b
 case store T x y=>
  simp only[w1]at b;split at b
  .rename_i t v w e;split at b
   .rename_i r h;split at b
    .rename_i u g;obtain⟨j,⟨⟩⟩:=dG b;obtain rfl:=Nat.eq_of_beq_eq_true j;cases q;subst i;exact⟨axg c (auS e) (auS h) l n g m f k,rfl⟩
    .cases b
   .cases b
  .cases b
 all_goals (simp only[w1]at b;cases b)
def hK{α:Type}{SA aM:Nat}{enc:α->List U}{f:α->U}{l:List (List α)}{i j:Int}{r:List α}{c:α}(x:α)(h:bq l i=some r)(a:bq r j=some c)(d:∀x,enc x=[f x])(g:(f x).closed=true)(k:(f x).one=true)(e:dN P SA 1 false):Hint P:=
 .gs true ([.dr (.jb i.toNat j.toNat) 0,f x],[(0,.bp (encS aM 1 enc l))]) (λ_=>w1 SA (encS aM 1 enc (l.set i.toNat (r.set j.toNat x)))) λ_ _ _ _ _ _ _ b m=>
  NY g k (ur h) (by rw[List.length_map];exact(nH a).2.1) (by rw[xU,List.map_set,d]) e b m
def qF(SA:Nat)(n:Nat)(op:Op)(env:ah)(σ:W):Option (bP×bL):=match op with
 |.call ⟨.builtin .len,args,a⟩=>(match args.toList,a.toList with
  |[x],[T]=>(match env.bS x with
   |some (.dr (.row p) e)=>(match σ.get e with
    |some (.bp Tv)=>bif Nat.beq T SA then some (.y [e] (.int .i64 (n:Int)),([.dr (.row p) 0],[(0,.bp Tv)]))else none
    |_=>none)
   |_=>none)
  |_,_=>none)
 |_=>none
def NZ{n:Nat}{rows:List (List U)}(k:Tv[p]?=some (.sl UC sz rows))(i:rows.length=n)(h:P.underlying SA=some (.slice E)){o:Oper}{ids:cg}{σ:W}{s:bP}
  (a:qF SA n o.op env σ=some (s,SC)) (r:SC=([.dr (.row p) 0],[(0,.bp Tv)])):c7 ⟨P,N,ids⟩ o env σ s:=by
 cases d:o.op with
 |call c=>
  rw[d]at a;obtain⟨q,args,u⟩:=c;cases q with
  |builtin b=>
   cases b<;>first|(simp only[qF]at a;cases a;done)|skip
   simp only[qF]at a;split at a
   .rename_i v T f t;split at a
    .rename_i w y e;split at a
     .rename_i x g;obtain⟨j,⟨⟩⟩:=dG a;obtain rfl:=Nat.eq_of_beq_eq_true j;cases r;have l:args=#[v]:=by simpa using congrArg List.toArray f
      have m:u=#[T]:=by simpa using congrArg List.toArray t
      subst l m;subst i;exact awS d rfl (auS e) g k h
     .cases a
    .cases a
   .cases a
  |_=>simp only[qF]at a;cases a
 |_=>rw[d]at a;simp only[qF]at a;cases a
def je{α:Type}{SA E aM sz:Nat}{enc:α->List U}{l:List (List α)}{i:Int}{r:List α}(c:bq l i=some r)(b:P.underlying SA=some (.slice E)):Hint P:=
 .gs false ([.dr (.row i.toNat) 0],[(0,.bp (encS aM sz enc l))]) (λ_=>qF SA r.length) λ_ _ _ _ _ _ _ a d=>NZ (ur c) (by simp) b a d
end
structure fc(n:Nat) where
 l:bH
 h:l.length=n
def fc.zero(n:Nat):fc n:=⟨List.replicate n 0,List.length_replicate⟩
def fc.put{n:Nat}(v:fc n)(i:Nat)(x:Int):fc n:=⟨v.l.set i x,by rw[List.length_set];exact v.h⟩
def jU{σ:W}{d:Nat}{o o0:b1}(a:σ.get d=some o0):(σ.set d o).get d=some o:=by rw[au5,if_pos rfl,a];rfl
def ms{σ:W}{d x:Nat}{o:b1}(a:x≠d):(σ.set d o).get x=σ.get x:=by rw[au5,if_neg a]
def xQ{cx:c2}{I:a2}{β:Nat->Value}{w:World}{d T:Nat}{xs:bH}:bb cx I β w d (.vec T xs)↔bb cx I β w d (.cells T (xs.map (U.int .i64))):=by
 simp only[bb];constructor
 .rintro(g|⟨f,e,h,a,c,b⟩)
  .exact .inl g
  .exact .inr ⟨f,e,h,a,by rw[c];exact uC xs,b⟩
 .rintro(g|⟨f,e,h,a,c,b⟩)
  .exact .inl g
  .exact .inr ⟨f,e,h,a,yY xs _ c,b⟩
theorem bG.swap{G:bQ}{cx:c2}{I:a2}{β:Nat->Value}{σ σ2:W}{w:World}(h:bG G cx I β σ w){d:Nat}{o F:b1}(Z:σ.get d=some o)(ab:σ2.get d=some F)(O:∀x,x≠d->σ2.get x=σ.get x)(X:bb cx I β w d o->bb cx I β w d F):bG G cx I β σ2 w:=by
 have D:∀x,(σ2.get x).isSome->(σ.get x).isSome:=λx u=>by
  by_cases e:x=d
  .grind
  .grind
 refine{h with b5:=λx aa u=>?_,cA:=λx y u Q=>h.cA x y (D x u) (D y Q)};by_cases e:x=d
 .subst e;rw[ab]at u;cases u;exact X (h.b5 x o Z)
 .rw[O x e]at u;exact h.b5 x aa u
section
variable {G:bQ}{σ:W}{o:Oper}{ev:Operand->U}
def Yields.vec{cw R:cg}{bt:U}{d T:Nat}{xs:bH}(Z:σ.get d=some (.vec T xs))(ak:d∈R)(h:Yields G o ev (σ.set d (.cells T (xs.map (U.int .i64)))) cw R bt):Yields G o ev σ cw R bt:=λO cx I β w ab ae ag am hop=>by
 have Q:O.get d=some (.vec T xs):=by rw[ae d ak];exact Z
 have ai:bG G cx I β (O.set d (.cells T (xs.map (U.int .i64)))) w:=ag.swap Q (jU Q) (λx F=>ms F) xQ.1
 have:=h (O.set d (.cells T (xs.map (U.int .i64)))) cx I β w ab (λx F=>by
  by_cases e:x=d
  .subst e;rw[jU Q,jU Z]
  .rw[ms e,ms e];exact ae x F) ai am hop
 generalize (execOp ab o).run G.P w=r at this;have key:∀v w',(∃u D,az u D bt v/\bG G cx u D (O.set d (.cells T (xs.map (U.int .i64)))) w'/\bM I u/\(∀d,d∉cw->D d=β d))->∃u D,az u D bt v/\bG G cx u D O w'/\bM I u/\(∀d,d∉cw->D d=β d):=λv w' ⟨u,D,aa,X,af⟩=>⟨u,D,aa,X.swap (jU Q) Q (λx F=>(ms F).symm) xQ.2,af⟩;cases r with
 |halt x w'=>exact this.elim
 |ok n w'=>cases n with
  |value v=>exact key _ _ this
  |skip=>exact key _ _ this
  |enter f args=>exact Calls.mono this λe an ⟨v,aa,X⟩=>⟨v,aa,key _ _ X⟩
  |_=>exact this.elim
def Yields.arr{cw R:cg}{xs:bH}(h:Yields G o ev σ cw R (.agg (xs.map (U.int .i64)))):Yields G o ev σ cw R (.arr xs):=λO cx I β w X ab aa ae hop=>by
 have:=h O cx I β w X ab aa ae hop;generalize (execOp X o).run G.P w=r at this;have key:∀v w',(∃u D,az u D (.agg (xs.map (U.int .i64))) v/\bG G cx u D O w'/\bM I u/\(∀d,d∉cw->D d=β d))->∃u D,az u D (.arr xs) v/\bG G cx u D O w'/\bM I u/\(∀d,d∉cw->D d=β d):=λv w' ⟨u,D,Q,F⟩=>⟨u,D,yZ.1 Q,F⟩;cases r with
 |halt x w'=>exact this.elim
 |ok n w'=>cases n with
  |value v=>exact key _ _ this
  |skip=>exact key _ _ this
  |enter f args=>exact Calls.mono this λe af ⟨v,Q,F⟩=>⟨v,Q,key _ _ F⟩
  |_=>exact this.elim
def eL.vec{d T X:Nat}{xs Q:bH}{ab:U}{M:cg}(an:M=[d])(Z:σ.get d=some (.vec T xs))
  (h:eL G o ev (σ.set d (.cells T (xs.map (U.int .i64)))) M [] (λr D=>r=ab/\D=(σ.set d (.cells T (xs.map (U.int .i64)))).set d (.cells X (Q.map (U.int .i64))))) :
  eL G o ev σ M [] (λr D=>r=ab/\D=σ.set d (.vec X Q)):=λcx I β w af am hop=>by
 subst an;have aq:bG G cx I β (σ.set d (.cells T (xs.map (U.int .i64)))) w:=am.swap Z (jU Z) (λx O=>ms O) xQ.1;have:=h cx I β w af aq hop
 have conv:∀{u F w'},bG G cx u F ((σ.set d (.cells T (xs.map (U.int .i64)))).set d (.cells X (Q.map (U.int .i64)))) w'->bG G cx u F (σ.set d (.vec X Q)) w':=λaa=>
  aa.swap (d:=d) (jU (jU Z)) (jU Z) (λx O=>by rw[ms O,ms O,ms O]) xQ.2
 have ao:∀x,x∉[d]->(σ.set d (.vec X Q)).get x=σ.get x:=λx O=>ms (by simpa using O);generalize (execOp af o).run G.P w=r at this
 have key:∀v w',(∃bt D u F,(bt=ab/\D=(σ.set d (.cells T (xs.map (U.int .i64)))).set d (.cells X (Q.map (U.int .i64))))/\az u F bt v/\bG G cx u F D w'/\bM I u/\(∀x,x∉([]:cg)->F x=β x)/\(∀x,x∉[d]->D.get x=(σ.set d (.cells T (xs.map (U.int .i64)))).get x))->∃bt D u F,(bt=ab/\D=σ.set d (.vec X Q))/\az u F bt v/\bG G cx u F D w'/\bM I u/\(∀x,x∉([]:cg)->F x=β x)/\(∀x,x∉[d]->D.get x=σ.get x):=λv w' ⟨a,D,u,F,⟨ar,ae⟩,aa,ak,ag,ai,_⟩=>by
  subst ar ae;exact⟨a,_,u,F,⟨rfl,rfl⟩,aa,conv ak,ag,ai,ao⟩
 cases r with
 |halt x w'=>exact this.elim
 |ok n w'=>cases n with
  |value v=>exact key _ _ this
  |skip=>exact key _ _ this
  |enter f args=>exact Calls.mono this λe aw ⟨v,ae,aa⟩=>⟨v,ae,key _ _ aa⟩
  |_=>exact this.elim
end
section
variable {P:Program}
def xF(SA d:Nat)(xs:bH)(op:Op)(ids:cg):Option (bP×bL):=match op with
 |.alloc T=>bif Nat.beq T SA&&!ids.contains d then some (.v d (.vec T xs) (.ptr d 0),([],[]))else none
 |_=>none
variable {N SA:Nat}{SC:bL}{env:ah}{xs:bH}
def N0{d:Nat}{c:c4}(h:∀w,∃z,(zeroValue SA).run P w=.ok z w/\z.cells=c.toArray)(g:iO c=xs.map (U.int .i64)){o:Oper}{ids:cg}{σ:W}{s:bP}
  (a:xF SA d xs o.op ids=some (s,SC)):c7 ⟨P,N,ids⟩ o env σ s:=by
 cases e:o.op<;>rw[e]at a
 case alloc T=>
  simp only[xF]at a;obtain⟨b,⟨⟩⟩:=dG a;simp only[Bool.and_eq_true,Bool.not_eq_true']at b;obtain rfl:=Nat.eq_of_beq_eq_true b.1;refine⟨b.2,Yields.vec (T:=T) (xs:=xs) (by rw[auU,if_pos rfl]) (by simp) ?_⟩;refine Yields.G6 (σ:=(d,.cells T (iO c))::σ) (λi f=>?_) (br.alloc e h b.2);rw[List.mem_singleton.1 f,jU (o0:=.vec T xs) (by rw[auU,if_pos rfl]),auU,if_pos rfl,g]
 all_goals (simp only[xF]at a;cases a)
def AR{SA n:Nat}{a:c4}(d:Nat)(v:fc n)(e:∀w,∃z,(zeroValue SA).run P w=.ok z w/\z.cells=a.toArray)(c:iO a=v.l.map (U.int .i64)):Hint P:=
 .gs false ([],[]) (λids f _ _=>xF SA d v.l f ids) λ_ _ _ _ _ _ _ b _=>N0 e c b
def xG(SA:Nat)(op:Op)(env:ah):Option (bP×bL):=match op with
 |.indexAddr T x y=>(match env.bS x with
  |some (.ptr d off)=>(match env.bS y with
   |some (.int k i)=>bif Nat.beq T SA then some (.y [] (.ptr d i.toNat),([.ptr 0 off,.int .i64 i],[]))else none
   |_=>none)
  |_=>none)
 |_=>none
variable {WK:Nat}
def N1{E:Nat}{i:Int}(h:P.underlying SA=some (.array WK E))(e:∀w,(sizeOf E).run P w=.ok 1 w)(hi:0<=i/\i<WK){o:Oper}{ids:cg}{σ:W}{s:bP}
  (a:xG SA o.op env=some (s,SC)) (g:SC=([.ptr 0 0,.int .i64 i],[])):c7 ⟨P,N,ids⟩ o env σ s:=by
 cases b:o.op<;>rw[b]at a
 case indexAddr T x y=>
  simp only[xG]at a;split at a
  .rename_i k m c;split at a
   .rename_i l j d;obtain⟨f,⟨⟩⟩:=dG a;obtain rfl:=Nat.eq_of_beq_eq_true f;cases g;have:=av4 (G:=⟨P,N,ids⟩) (σ:=σ) b (auS c) (auS d) h e hi;rw[Nat.mul_one,Nat.zero_add]at this;exact this
   .cases a
  .cases a
 all_goals (simp only[xG]at a;cases a)
def ov{SA WK E:Nat}{v:fc WK}{i c:Int}(d:bq v.l i=some c)(f:P.underlying SA=some (.array WK E))(b:∀w,(sizeOf E).run P w=.ok 1 w):Hint P:=
 .gs false ([.ptr 0 0,.int .i64 i],[]) (λ_ g env _=>xG SA g env) λ_ _ _ _ _ _ _ a e=>N1 f b (by have:=nH d;have:=v.h;omega) a e
def xH(SA:Nat)(a:U)(op:Op)(env:ah)(σ:W):Option (bP×bL):=match op with
 |.load T x=>(match env.bS x with
  |some (.ptr d p)=>(match σ.get d with
   |some (.vec UC xs)=>bif Nat.beq T SA then some (.y [d] a,([.ptr 0 p],[(0,.vec 0 xs)]))else none
   |_=>none)
  |_=>none)
 |_=>none
variable {p:Nat}
def Nt{c:Int}(h:dN P SA 1 false)(e:xs[p]?=some c){o:Oper}{ids:cg}{σ:W}{s:bP}
  (a:xH SA (.int .i64 c) o.op env σ=some (s,SC)) (j:SC=([.ptr 0 p],[(0,.vec 0 xs)])):c7 ⟨P,N,ids⟩ o env σ s:=by
 cases b:o.op<;>rw[b]at a
 case load T x=>
  simp only[xH]at a;split at a
  .rename_i i l f;split at a
   .rename_i UC m d;obtain⟨g,⟨⟩⟩:=dG a;obtain rfl:=Nat.eq_of_beq_eq_true g;cases j;refine Yields.vec d (by simp) ?_;have k:=(List.getElem?_eq_some_iff.1 e).1;have:=avQ (G:=⟨P,N,ids⟩) (σ:=σ.set i (.cells UC (xs.map (U.int .i64)))) b (auS f) (jU d) h rfl (by simp;omega);rw[show ht false 1 ((xs.map (U.int .i64)).drop p)=.int .i64 c by
     simp only[ht,cond_false,<-List.map_drop,List.headD_eq_head?_getD,List.head?_map,List.head?_drop,e];rfl]at this
    exact this
   .cases a
  .cases a
 all_goals (simp only[xH]at a;cases a)
def ow{SA WK:Nat}{v:fc WK}{i c:Int}(d:bq v.l i=some c)(b:dN P SA 1 false):Hint P:=
 .gs false ([.ptr 0 i.toNat],[(0,.vec 0 v.l)]) (λ_=>xH SA (.int .i64 c)) λ_ _ _ _ _ _ _ a e=>Nt b (nH d).2.2 a e
def xK(SA:Nat)(op:Op)(env:ah)(σ:W):Option (bP×bL):=match op with
 |.load T x=>(match env.bS x with
  |some (.ptr d p)=>(match σ.get d with
   |some (.vec UC xs)=>bif Nat.beq T SA then some (.y [d] (.arr xs),([.ptr 0 p],[(0,.vec 0 xs)]))else none
   |_=>none)
  |_=>none)
 |_=>none
def Nu{v:fc WK}(e:dN P SA WK true){o:Oper}{ids:cg}{σ:W}{s:bP}
  (a:xK SA o.op env σ=some (s,SC)) (h:SC=([.ptr 0 0],[(0,.vec 0 v.l)])):c7 ⟨P,N,ids⟩ o env σ s:=by
 cases b:o.op<;>rw[b]at a
 case load T x=>
  simp only[xK]at a;split at a
  .rename_i g i d;split at a
   .rename_i UC j c;obtain⟨f,⟨⟩⟩:=dG a;obtain rfl:=Nat.eq_of_beq_eq_true f;cases h;refine Yields.vec c (by simp) (Yields.arr ?_);have:=avQ (G:=⟨P,N,ids⟩) (σ:=σ.set g (.cells UC (v.l.map (U.int .i64)))) b (auS d) (jU c) e rfl (by simp[v.h]);simp only[ht,cond_true,List.drop_zero]at this;rw[List.take_of_length_le (by simp[v.h])]at this;exact this
   .cases a
  .cases a
 all_goals (simp only[xK]at a;cases a)
def QN{SA WK:Nat}(v:fc WK)(b:dN P SA WK true):Hint P:=
 .gs false ([.ptr 0 0],[(0,.vec 0 v.l)]) (λ_=>xK SA) λ_ _ _ _ _ _ _ a c=>Nu b a c
def xI(SA:Nat)(b:bH)(op:Op)(env:ah)(σ:W):Option (bP×bL):=match op with
 |.store T x y=>(match env.bS x with
  |some (.ptr d p)=>(match env.bS y with
   |some a=>(match σ.get d with
    |some (.vec UC xs)=>bif Nat.beq T SA then some (.e [d] [] .undef (σ.set d (.vec UC b)),([.ptr 0 p,a],[(0,.vec 0 xs)]))else none
    |_=>none)
   |_=>none)
  |_=>none)
 |_=>none
theorem IY{α:Type}{l:List α}{x:α}(a:p<l.length):ei l p [x]=l.set p x:=by
 apply List.ext_getElem?;intro b;simp only[ei,List.length_singleton,List.getElem?_set]
 grind
def Nv{z:Int}(f:dN P SA 1 false)(j:p<xs.length){o:Oper}{ids:cg}{σ:W}{s:bP}
  (a:xI SA (xs.set p z) o.op env σ=some (s,SC)) (i:SC=([.ptr 0 p,.int .i64 z],[(0,.vec 0 xs)])):c7 ⟨P,N,ids⟩ o env σ s:=by
 cases b:o.op<;>rw[b]at a
 case store T x y=>
  simp only[xI]at a;split at a
  .rename_i h l d;split at a
   .rename_i k e;split at a
    .rename_i UC m c;obtain⟨g,⟨⟩⟩:=dG a;obtain rfl:=Nat.eq_of_beq_eq_true g;cases i;refine⟨eL.vec rfl c ?_,rfl⟩;have:=avS (G:=⟨P,N,ids⟩) (σ:=σ.set h (.cells UC (xs.map (U.int .i64)))) b (auS d) (auS e) (jU c) f.size rfl rfl (by simp;omega);rw[show ei (xs.map (U.int .i64)) p (g3 (.int .i64 z))=(xs.set p z).map (U.int .i64)by
      rw[show g3 (.int .i64 z)=[.int .i64 z]from rfl,IY (by simp;omega),List.map_set]]at this
     exact this
    .cases a
   .cases a
  .cases a
 all_goals (simp only[xI]at a;cases a)
def QM{SA WK:Nat}{v:fc WK}{i c:Int}(x:Int)(d:bq v.l i=some c)(b:dN P SA 1 false):Hint P:=
 .gs true ([.ptr 0 i.toNat,.int .i64 x],[(0,.vec 0 v.l)]) (λ_=>xI SA (v.put i.toNat x).l) λ_ _ _ _ _ _ _ a e=>Nv b (nH d).2.1 a e
theorem axm{G:bQ}{σ:W}{o:Oper}{ev:Operand->U}{T aM d n:Nat}{x y:Operand}{cs:List U}(z:o.op=.store T x y)(c:ev x=.ptr d 0)(g:ev y=.arr xs)(s:σ.get d=some (.cells aM cs))(t:∀w,(sizeOf T).run G.P w=.ok n w)(u:xs.length=n)(B:cs.length=n):
  eL G o ev σ [d] [] (λr l=>r=.undef/\l=σ.set d (.cells aM (xs.map (U.int .i64)))):=by
 have j:(U.agg (xs.map (U.int .i64))).flat=true:=by
  show(xs.map (U.int .i64)).all U.one=true;rw[List.all_eq_true];intro A v;obtain⟨x,_,rfl⟩:=List.mem_map.1 v;rfl
 have m:(g3 (U.agg (xs.map (U.int .i64)))).length=n:=by simp[g3,u]
 have q:ei cs 0 (g3 (U.agg (xs.map (U.int .i64))))=xs.map (U.int .i64):=by
  simp only[ei,g3,List.take_zero,List.nil_append,Nat.zero_add]
  grind
 intro cx I β w f k h
 letI:DecidableEq Operand:=λ_ _=>Classical.propDecidable _
 let b:Operand->U:=λa=>if a=y then .agg (xs.map (U.int .i64))else ev a
 have p:x≠y:=λe=>by rw[e,g]at c;cases c
 have:=avS (G:=G) (σ:=σ) (o:=o) (ev:=b) (aM:=aM) z (show b x=.ptr d 0 by simp[b,p,c]) (show b y=U.agg (xs.map (U.int .i64))by simp[b]) s t j m (by omega);rw[q]at this;refine this cx I β w f k λa i=>?_;show az I β (if a=y then _ else ev a) (f a);split
 .rename_i e;subst e
  have:=h a i;rw[g]at this;exact yZ.2 this
 .exact h a i
def xJ(SA:Nat)(op:Op)(env:ah)(σ:W):Option (bP×bL):=match op with
 |.store T x y=>(match env.bS x with
  |some (.ptr d p)=>(match env.bS y with
   |some (.arr a)=>(match σ.get d with
    |some (.vec UC xs)=>bif Nat.beq T SA then some (.e [d] [] .undef (σ.set d (.vec UC a)),([.ptr 0 p,.arr a],[(0,.vec 0 xs)]))else none
    |_=>none)
   |_=>none)
  |_=>none)
 |_=>none
def Nw{v d:fc WK}(g:∀w,(sizeOf SA).run P w=.ok WK w){o:Oper}{ids:cg}{σ:W}{s:bP}
  (a:xJ SA o.op env σ=some (s,SC)) (i:SC=([.ptr 0 0,.arr d.l],[(0,.vec 0 v.l)])):c7 ⟨P,N,ids⟩ o env σ s:=by
 cases b:o.op<;>rw[b]at a
 case store T x y=>
  simp only[xJ]at a;split at a
  .rename_i l k e;split at a
   .rename_i j f;split at a
    .rename_i UC xs c;obtain⟨h,⟨⟩⟩:=dG a;obtain rfl:=Nat.eq_of_beq_eq_true h;cases i;exact⟨eL.vec rfl c (axm b (auS e) (auS f) (jU c) g d.h (by simp[v.h])),rfl⟩
    .cases a
   .cases a
  .cases a
 all_goals (simp only[xJ]at a;cases a)
def AS{SA WK:Nat}(v c:fc WK)(b:∀w,(sizeOf SA).run P w=.ok WK w):Hint P:=
 .gs true ([.ptr 0 0,.arr c.l],[(0,.vec 0 v.l)]) (λ_=>xJ SA) λ_ _ _ _ _ _ _ a d=>Nw b a d
def A.QD{ids:cg}{bo:ef}(aH:fI P bo){fn:Func}{e1:ah}{σ s1 σ2:W}{x R:U}{e:Exit}(D:List hR)(Q:(match e with|.ret|.normal=>true|_=>false)=true)(X:n3 ids D env σ=some (e1,s1))(F:j5 ⟨P,N,ids⟩ e1 s1 fn.results.toList x)(Y:fG σ2.ids s1 x=some R)(O:s1.at σ2.ids=some σ2):
  h4 ⟨P,N,ids⟩ fn (λa u=>a=R/\u=σ2) e env σ:=by
 refine⟨e1,s1,qP X,?_⟩;have key:∃bK x r u,j5 ⟨P,N,ids⟩ e1 (s1.freeze bK) fn.results.toList x/\fq (s1.freeze bK) x r/\(∀p∈u,(s1.freeze bK).get p.1=some p.2)/\(r=R/\u=σ2):=by
  refine⟨[],x,R,σ2,?_,?_,?_,rfl,rfl⟩
  .rw[avu];exact F
  .rw[avu];exact kB Y
  .rw[avu];exact(avg O).1.mem
 cases e<;>first|exact key|cases Q
end
end
section
set_option linter.all false
open Go
def Ix:TypeDesc->Bool
 |.struct _=>true
 |.array _ _=>true
 |_=>false
def o1(P:Program)(T:Nat):Option (Nat×Bool):=match P.info? T,P.underlying T with
 |some i,some d=>some (i.size,Ix d)
 |_,_=>none
variable {P:Program}{T:Nat}
def zB{i:TypeInfo}(a:P.info? T=some i)(w:World):(sizeOf T).run P w=.ok i.size w:=by
 simp[sizeOf,typeInfo,program,Sem.run,a]
def uN{n:Nat}{b9:Bool}(a:o1 P T=some (n,b9)):dN P T n b9:=by
 unfold o1 at a;split at a
 .rename_i e c d b;simp only[Option.some.injEq,Prod.mk.injEq]at a;obtain⟨rfl,rfl⟩:=a;refine⟨zB d,λf=>?_⟩;simp only[isAgg,Sem.run_bind,run_underlying b,Result.andThen_ok];cases c<;>rfl
 .cases a
def ud(P:Program)(T:Nat):Option Value:=match P.info? T with
 |some i=>i.zero
 |none=>none
def zC{z:Value}(a:ud P T=some z)(w:World):(zeroValue T).run P w=.ok z w:=by
 unfold ud at a;split at a
 .rename_i c b;simp[zeroValue,typeInfo,program,Sem.run,b,a]
 .cases a
def nE(P:Program):List Field->Option (List (Nat×Nat))
 |[]=>some []
 |f::r=>match o1 P f.type,nE P r with
  |some (n+1,_),some l=>some ((f.offset,n+1)::l)
  |_,_=>none
def u5(P:Program):List Field->Option (List Bool)
 |[]=>some []
 |f::r=>match o1 P f.type,u5 P r with
  |some (n,a),some l=>bif a||Nat.beq n 1 then some (a::l)else none
  |_,_=>none
def AX(P:Program)(T:Nat)(k:q1):Option q1:=match k,P.underlying T with
 |.hM,_=>some .hM
 |.int _,some (.int k)=>some (.int k)
 |.bool,some .bool=>some .bool
 |.str,some .string=>some .str
 |.slice _ _ _ _,some (.slice E)=>(match P.info? E with
  |some e=>(match e.zero with
   |some z=>bif Nat.beq z.cells.size e.size&&Nat.blt 0 e.size then some (.slice E e.size e.bytes z.cells.toList)else none
   |none=>none)
  |none=>none)
 |.map _ _ _,some (.map K E)=>(match P.underlying K with|some (.int k)=>some (.map K E k)|_=>none)
 |.struct _ _ c,some (.struct b)=>(match ud P T,nE P b.toList,(bif c.isEmpty then some []else u5 P b.toList)with
  |some (.agg cs),some d,some a=>some (.struct cs.toList d a)
  |_,_,_=>none)
 |_,_=>none
def E7{P:Program}:∀{fs:List Field} {a:List (Nat×Nat)},nE P fs=some a->∀w,(fs.mapM λf=>do pure (f.offset,<-sizeOf f.type):Sem (List (Nat×Nat))).run P w=.ok a w
 |[],a,h,w=>by simp only[nE,Option.some.injEq]at h;subst h;rfl
 |f::r,a,h,w=>by
  simp only[nE]at h;split at h
  .rename_i g d e c b;simp only[Option.some.injEq]at h;subst h
   simp only[List.mapM_cons,Sem.run_bind,(uN c).size,Result.andThen_ok,E7 b,Sem.run_pure]
  .cases h
def zD{P:Program}:∀{fs:List Field} {b:List (Nat×Nat)} {f off sz:Nat},nE P fs=some b->b[f]?=some (off,sz)->∃g b9,fs[f]?=some g/\g.offset=off/\o1 P g.type=some (sz,b9)/\sz≠0
 |[],b,f,off,sz,h,a=>by simp only[nE,Option.some.injEq]at h;subst h;simp at a
 |g::r,b,f,off,sz,h,a=>by
  simp only[nE]at h;split at h
  .rename_i i b9 e d c;simp only[Option.some.injEq]at h;subst h
   cases f with
   |zero=>simp at a;exact⟨g,b9,rfl,a.1,by rw[<-a.2];exact d,by omega⟩
   |succ f=>exact zD (fs:=r) c (by simpa using a)
  .cases h
def Ev{P:Program}:∀{fs:List Field} {a:ja} {f:Nat} {b9:Bool} {g:Field},u5 P fs=some a->a[f]?=some b9->fs[f]?=some g->∃n,o1 P g.type=some (n,b9)/\(b9=false->n=1)
 |[],a,f,b9,g,h,c,b=>by simp at b
 |g::r,a,f,b9,l,h,c,b=>by
  simp only[u5]at h;split at h
  .rename_i n i m k e;cases d:(i||Nat.beq n 1)<;>rw[d]at h
   .cases h
   simp only[cond_true,Option.some.injEq]at h;subst h
   cases f with
   |zero=>simp at c b;subst c b;exact⟨n,k,λj=>by subst j;simpa using d⟩
   |succ f=>exact Ev (fs:=r) e (by simpa using c) (by simpa using b)
  .cases h
theorem Nx{k:q1}(b:AX P T k=some k):g6 P T k:=by
 unfold AX at b;split at b
 .exact trivial
 .rename_i c;cases b;exact c
 .rename_i c;exact c
 .rename_i c;exact c
 .rename_i s c;split at b
  .rename_i i e;split at b
   .rename_i n j;cases f:(Nat.beq n.cells.size i.size&&Nat.blt 0 i.size)<;>rw[f]at b
    .cases b
    simp only[Bool.and_eq_true,Nat.beq_eq]at f;have v:0<i.size:=Nat.le_of_ble_eq_true f.2;cases b;exact⟨⟨c,zB e⟩,⟨c,⟨i,n,e,j,rfl,rfl,f.1⟩,v⟩,c,zB e,λg=>⟨n,zC (by simp[ud,e,j]) g,rfl⟩,by simpa using f.1⟩
   .cases b
  .cases b
 .rename_i C s c;split at b
  .rename_i k d;cases b;exact⟨c,d⟩
  .cases b
 .rename_i J F q H c;split at b
  .rename_i G E a j m r;cases b;refine⟨Rq (λg=>by simpa using zC j g) c λg=>?_,λx z B l=>⟨λA g=>?_⟩,λx z B w l t=>?_⟩
   .rw[Array.mapM_eq_mapM_toList,Sem.run_map,E7 m];rfl
   .obtain⟨y,w,d,rfl,h,o⟩:=zD m l;simp only[Instr.fieldAt,Instr.sureAddr,fieldPlace,Sem.run_bind,run_underlying c,Result.andThen_ok,Array.getElem?_toList.symm,d,Sem.run_pure,(uN h).size];simp[o]
   .obtain⟨y,D,d,rfl,h,o⟩:=zD m l;cases e:q.isEmpty<;>rw[e]at r
    .obtain⟨I,p,u⟩:=Ev (a:=q) (by simpa using r) t d;rw[h]at p;cases p
     exact N3 c (by rw[<-Array.getElem?_toList,d];rfl) (uN h) u
    .grind
  .cases b
 .cases b
def Bq(P:Program)(T:Nat)(i:mT):Option mT:=match o1 P T,AX P T i.kd,(match i.zs with|none=>some none|some _=>(match ud P T with|some z=>some (some z.cells.toList)|none=>none))with
 |some (n,a),some k,some b=>some ⟨n,a,b,k⟩
 |_,_,_=>none
def Ny{i:mT}(b:Bq P T i=some i):vh P T i:=by
 unfold Bq at b;split at b
 .rename_i m k l n e d a;cases b;refine⟨uN e,λj c g=>?_,Nx d⟩;simp only at a c;subst c
  simp only at a;split at a
  .rename_i h f;exact⟨h,zC f g,by simp only[Option.some.injEq]at a;rw[<-a]⟩
  .cases a
 .cases b
def FL{P:Program}:∀{bo:ef},(bo.map λp=>Bq P p.1 p.2)=bo.map (λp=>some p.2)->fL P bo
 |[],_=>trivial
 |(k,v)::r,h=>by
  simp only[List.map_cons,List.cons.injEq]at h;exact⟨Ny h.1,FL h.2⟩
def fI.ty{bo:ef}(aH:fI P bo){i:mT}(h:bo.get T=some i):vh P T i:=aH.tys.get h
end
section
open Go Go.Proofs.Tryz
set_option maxRecDepth 100000
set_option linter.all false
structure ck where
 b7:Int
 uu:Bool
instance:Inhabited ck:=⟨ck.mk (0:Int) false⟩
def cp:fx ck:=⟨λa=>[.int .i64 a.b7,.bool a.uu],2,λ_=>rfl,λ_=>rfl,λ_=>rfl⟩
structure bU where
 A:Int
 B:Int
 eE:Int
 eP:Int
 lJ:Int
instance:Inhabited bU:=⟨bU.mk (0:Int) (0:Int) (0:Int) (0:Int) (0:Int)⟩
def cC:fx bU:=⟨λa=>[.int .i64 a.A,.int .i64 a.B,.int .i64 a.eE,.int .i64 a.eP,.int .i64 a.lJ],5,λ_=>rfl,λ_=>rfl,λ_=>rfl⟩
structure aK where
 aP:List ck
 Links:List bU
instance:Inhabited aK:=⟨aK.mk [] []⟩
def iA:fx aK:=⟨λa=>[.aL false (ag cp a.aP),.aL false (ag cC a.Links)],2,λ_=>rfl,λ_=>rfl,λ_=>rfl⟩
structure aQ where
 aO:Int
 aJ:Int
instance:Inhabited aQ:=⟨aQ.mk (0:Int) (0:Int)⟩
def bl:fx aQ:=⟨λa=>[.int .i64 a.aO,.int .i64 a.aJ],2,λ_=>rfl,λ_=>rfl,λ_=>rfl⟩
def gH(a b:aQ):Bool:=decide (a.aO=b.aO)&&(decide (a.aJ=b.aJ)&&true)
structure bm where
 Hop:aQ
 b6:Int
instance:Inhabited bm:=⟨bm.mk (aQ.mk (0:Int) (0:Int)) (0:Int)⟩
def cz:fx bm:=⟨λa=>[.int .i64 a.Hop.aO,.int .i64 a.Hop.aJ,.int .i64 a.b6],3,λ_=>rfl,λ_=>rfl,λ_=>rfl⟩
structure bR where
 L:List Int
 At:Int
instance:Inhabited bR:=⟨bR.mk [] (0:Int)⟩
structure b0 where
 cH:Int
 Links:List aQ
instance:Inhabited b0:=⟨b0.mk (0:Int) []⟩
def mu:fx b0:=⟨λa=>[.int .i64 a.cH,.aL false (ag bl a.Links)],2,λ_=>rfl,λ_=>rfl,λ_=>rfl⟩
structure FM where
 aO:Int
 aJ:Int
 Sa:Int
instance:Inhabited FM:=⟨FM.mk (0:Int) (0:Int) (0:Int)⟩
structure cL where
 dm:Int
 fS:Int
instance:Inhabited cL:=⟨cL.mk (0:Int) (0:Int)⟩
def cM:fx cL:=⟨λa=>[.int .i64 a.dm,.int .i64 a.fS],2,λ_=>rfl,λ_=>rfl,λ_=>rfl⟩
structure bI where
 aP:List Int
 Value:Int
instance:Inhabited bI:=⟨bI.mk [] (0:Int)⟩
def bF:fx bI:=⟨λa=>[.aL false (ag af a.aP),.int .i64 a.Value],2,λ_=>rfl,λ_=>rfl,λ_=>rfl⟩
structure Ew where
 cH:Int
 Sc:List Int
 Sb:Int
instance:Inhabited Ew:=⟨Ew.mk (0:Int) [] (0:Int)⟩
structure jP where
 gZ:List (Int×List cL)
 nh:List (Int×List cL)
instance:Inhabited jP:=⟨jP.mk [] []⟩
structure dL where
 c5:Int
 yh:Int
 jc:Int
instance:Inhabited dL:=⟨dL.mk (0:Int) (0:Int) (0:Int)⟩
def xB:fx dL:=⟨λa=>[.int .i64 a.c5,.int .i64 a.yh,.int .i64 a.jc],3,λ_=>rfl,λ_=>rfl,λ_=>rfl⟩
def bo:ef:=[(2,⟨1,false,some [zI0],.int .i64⟩),(3,⟨1,false,some [zI0],.int .i64⟩),(4,⟨1,false,some [.bool false],.bool⟩),(5,⟨1,false,some [.int .u8 0],.int .u8⟩),(6,⟨1,false,some [.int .u8 0],.int .u8⟩),(7,⟨4,true,some [zI0,zI0,.bool false,.int .u8 0],.struct [zI0,zI0,.bool false,.int .u8 0] [(0,1),(1,1),(2,1),(3,1)] [false,false,false,false]⟩),(8,⟨4,true,some [zI0,zI0,.bool false,.int .u8 0],.struct [zI0,zI0,.bool false,.int .u8 0] [(0,1),(1,1),(2,1),(3,1)] [false,false,false,false]⟩),(9,⟨1,false,some [.string ⟨#[]⟩],.str⟩),(10,⟨1,false,some [.string ⟨#[]⟩],.str⟩),(11,⟨1,false,some [.string ⟨#[]⟩],.str⟩),(12,⟨1,false,some [.int .u64 0],.int .u64⟩),(13,⟨2,true,some [.string ⟨#[]⟩,.int .u64 0],.struct [.string ⟨#[]⟩,.int .u64 0] [(0,1),(1,1)] [false,false]⟩),(14,⟨2,true,some [.string ⟨#[]⟩,.int .u64 0],.struct [.string ⟨#[]⟩,.int .u64 0] [(0,1),(1,1)] [false,false]⟩),(15,⟨1,false,some [.pointer none],.hM⟩),(16,⟨1,false,some [.pointer none],.hM⟩),(17,⟨1,false,some [.pointer none],.hM⟩),(18,⟨1,true,some [.pointer none],.struct [.pointer none] [(0,1)] [false]⟩),(19,⟨1,true,some [.pointer none],.struct [.pointer none] [(0,1)] [false]⟩),(21,⟨1,false,some [.int .i32 0],.int .i32⟩),(22,⟨1,false,some [zS0],.slice 3 1 8 [zI0]⟩),(23,⟨1,false,some [.pointer none],.hM⟩),(25,⟨1,false,some [zS0],.slice 31 2 16 [zI0,.bool false]⟩),(26,⟨1,false,some [zS0],.slice 62 5 40 [zI0,zI0,zI0,zI0,zI0]⟩),(27,⟨2,true,some [zS0,zS0],.struct [zS0,zS0] [(0,1),(1,1)] [false,false]⟩),(28,⟨2,true,some [zS0,zS0],.struct [zS0,zS0] [(0,1),(1,1)] [false,false]⟩),(30,⟨2,true,some [zI0,.bool false],.struct [zI0,.bool false] [(0,1),(1,1)] [false,false]⟩),(31,⟨2,true,some [zI0,.bool false],.struct [zI0,.bool false] [(0,1),(1,1)] [false,false]⟩),(34,⟨1,false,some [zS0],.slice 84 2 16 [zI0,zI0]⟩),(35,⟨2,true,some [zI0,zS0],.struct [zI0,zS0] [(0,1),(1,1)] [false,false]⟩),(36,⟨2,true,some [zI0,zS0],.struct [zI0,zS0] [(0,1),(1,1)] [false,false]⟩),(37,⟨1,false,some [zI0],.int .i64⟩),(48,⟨1,false,some [zS0],.slice 36 2 32 [zI0,zS0]⟩),(62,⟨5,true,some [zI0,zI0,zI0,zI0,zI0],.struct [zI0,zI0,zI0,zI0,zI0] [(0,1),(1,1),(2,1),(3,1),(4,1)] [false,false,false,false,false]⟩),(63,⟨1,false,some [.nilFunc],.hM⟩),(71,⟨1,false,some [zS0],.slice 28 2 48 [zS0,zS0]⟩),(76,⟨1,false,some [zS0],.slice 22 1 24 [zS0]⟩),(84,⟨2,true,some [zI0,zI0],.struct [zI0,zI0] [(0,1),(1,1)] [false,false]⟩),(85,⟨1,false,some [zS0],.slice 120 2 32 [zS0,zI0]⟩),(98,⟨1,false,some [zS0],.slice 85 1 24 [zS0]⟩),(103,⟨2,true,some [zS0,zI0],.struct [zS0,zI0] [(0,1),(1,1)] [false,false]⟩),(105,⟨1,false,some [zS0],.slice 106 1 24 [zS0]⟩),(106,⟨1,false,some [zS0],.slice 4 1 1 [.bool false]⟩),(111,⟨1,false,some [zS0],.slice 175 3 24 [zI0,zI0,zI0]⟩),(114,⟨100,true,some [zI0,zI0,zI0,zI0,zI0,zI0,zI0,zI0,zI0,zI0,zI0,zI0,zI0,zI0,zI0,zI0,zI0,zI0,zI0,zI0,zI0,zI0,zI0,zI0,zI0,zI0,zI0,zI0,zI0,zI0,zI0,zI0,zI0,zI0,zI0,zI0,zI0,zI0,zI0,zI0,zI0,zI0,zI0,zI0,zI0,zI0,zI0,zI0,zI0,zI0,zI0,zI0,zI0,zI0,zI0,zI0,zI0,zI0,zI0,zI0,zI0,zI0,zI0,zI0,zI0,zI0,zI0,zI0,zI0,zI0,zI0,zI0,zI0,zI0,zI0,zI0,zI0,zI0,zI0,zI0,zI0,zI0,zI0,zI0,zI0,zI0,zI0,zI0,zI0,zI0,zI0,zI0,zI0,zI0,zI0,zI0,zI0,zI0,zI0,zI0],.hM⟩),(120,⟨2,true,some [zS0,zI0],.struct [zS0,zI0] [(0,1),(1,1)] [false,false]⟩),(144,⟨1,false,some [.map none],.map 3 3 .i64⟩),(152,⟨1,false,some [.map none],.hM⟩),(156,⟨1,false,some [.nilFunc],.hM⟩),(158,⟨1,false,some [.nilFunc],.hM⟩),(161,⟨1,false,some [.pointer none],.hM⟩),(162,⟨1,false,some [zS0],.slice 144 1 8 [.map none]⟩),(163,⟨1,false,some [zS0],.slice 166 1 8 [.map none]⟩),(165,⟨3,true,some [zS0,zS0,zS0],.struct [zS0,zS0,zS0] [(0,1),(1,1),(2,1)] [false,false,false]⟩),(166,⟨1,false,some [.map none],.map 3 169 .i64⟩),(169,⟨2,true,some [zI0,zI0],.struct [zI0,zI0] [(0,1),(1,1)] [false,false]⟩),(172,⟨1,false,some [.nilFunc],.hM⟩),(175,⟨3,true,some [zI0,zI0,zI0],.struct [zI0,zI0,zI0] [(0,2),(2,1)] [true,false]⟩),(177,⟨1,false,some [.nilFunc],.hM⟩),(178,⟨1,false,some [.int .u64 0],.int .u64⟩),(179,⟨3,true,some [zI0,zI0,zI0],.hM⟩),(180,⟨1,false,some [zS0],.slice 179 3 24 [zI0,zI0,zI0]⟩),(182,⟨1,false,some [.nilFunc],.hM⟩),(185,⟨1,false,some [.nilFunc],.hM⟩),(187,⟨1,false,some [.nilFunc],.hM⟩),(188,⟨1,false,some [.nilFunc],.hM⟩),(190,⟨1,false,some [.nilFunc],.hM⟩),(191,⟨1,false,some [.map none],.map 3 4 .i64⟩),(208,⟨1,false,some [.map none],.map 3 234 .i64⟩),(210,⟨2,true,some [.map none,.map none],.struct [.map none,.map none] [(0,1),(1,1)] [false,false]⟩),(216,⟨1,false,some [.nilFunc],.hM⟩),(234,⟨1,false,some [zS0],.slice 237 2 16 [zI0,zI0]⟩),(237,⟨2,true,some [zI0,zI0],.struct [zI0,zI0] [(0,1),(1,1)] [false,false]⟩),(239,⟨1,false,some [.nilFunc],.hM⟩),(245,⟨1,false,some [zI0],.int .i64⟩),(252,⟨1,false,some [.int .u32 0],.int .u32⟩),(254,⟨1,false,some [.int .u64 0],.int .u64⟩)]
def aY:fI prog bo:=⟨QJ,FL (by kernel_rfl)⟩
def zQ:Ca 114 [zI0,zI0,zI0,zI0,zI0,zI0,zI0,zI0,zI0,zI0,zI0,zI0,zI0,zI0,zI0,zI0,zI0,zI0,zI0,zI0,zI0,zI0,zI0,zI0,zI0,zI0,zI0,zI0,zI0,zI0,zI0,zI0,zI0,zI0,zI0,zI0,zI0,zI0,zI0,zI0,zI0,zI0,zI0,zI0,zI0,zI0,zI0,zI0,zI0,zI0,zI0,zI0,zI0,zI0,zI0,zI0,zI0,zI0,zI0,zI0,zI0,zI0,zI0,zI0,zI0,zI0,zI0,zI0,zI0,zI0,zI0,zI0,zI0,zI0,zI0,zI0,zI0,zI0,zI0,zI0,zI0,zI0,zI0,zI0,zI0,zI0,zI0,zI0,zI0,zI0,zI0,zI0,zI0,zI0,zI0,zI0,zI0,zI0,zI0,zI0]:=(aY.ty (T:=114) rfl).B3 _ rfl
def rA:Ca 179 [zI0,zI0,zI0]:=(aY.ty (T:=179) rfl).B3 _ rfl
def hy:dN prog 3 1 false:=(aY.ty (T:=3) rfl).ty
def hN:dN prog 22 1 false:=(aY.ty (T:=22) rfl).ty
def jC:g8 prog 22 3 1:=(aY.ty (T:=22) rfl).kd.1
def rB:gO prog 22 3 1 8:=(aY.ty (T:=22) rfl).kd.2.1
def zR:jx prog 22 3 1 [zI0]:=(aY.ty (T:=22) rfl).kd.2.2
def zS:gO prog 34 84 2 16:=(aY.ty (T:=34) rfl).kd.2.1
def h7:g8 prog 76 22 1:=(aY.ty (T:=76) rfl).kd.1
def FN:gO prog 76 22 1 24:=(aY.ty (T:=76) rfl).kd.2.1
def FO:jx prog 76 22 1 [zS0]:=(aY.ty (T:=76) rfl).kd.2.2
def o7:g8 prog 105 106 1:=(aY.ty (T:=105) rfl).kd.1
def Nz:gO prog 105 106 1 24:=(aY.ty (T:=105) rfl).kd.2.1
def NA:jx prog 105 106 1 [zS0]:=(aY.ty (T:=105) rfl).kd.2.2
def uX:dN prog 106 1 false:=(aY.ty (T:=106) rfl).ty
def NB:gO prog 106 4 1 1:=(aY.ty (T:=106) rfl).kd.2.1
def NC:jx prog 106 4 1 [.bool false]:=(aY.ty (T:=106) rfl).kd.2.2
def uY:dN prog 114 100 true:=(aY.ty (T:=114) rfl).ty
def rC:dN prog 144 1 false:=(aY.ty (T:=144) rfl).ty
def h3:gi prog 144 3 3 .i64:=(aY.ty (T:=144) rfl).kd
def rD:g8 prog 162 144 1:=(aY.ty (T:=162) rfl).kd.1
def ND:gO prog 162 144 1 8:=(aY.ty (T:=162) rfl).kd.2.1
def Pn:g8 prog 163 166 1:=(aY.ty (T:=163) rfl).kd.1
def NF:gO prog 163 166 1 8:=(aY.ty (T:=163) rfl).kd.2.1
def Po:dN prog 166 1 false:=(aY.ty (T:=166) rfl).ty
def uO:gi prog 166 3 169 .i64:=(aY.ty (T:=166) rfl).kd
def NG:gi prog 191 3 4 .i64:=(aY.ty (T:=191) rfl).kd
def iK:gi prog 208 3 234 .i64:=(aY.ty (T:=208) rfl).kd
def Qf:bB prog 12:=⟨call12⟩
def Qg:bB prog 13:=⟨call13⟩
def h8:bB prog 14:=⟨call14⟩
def Qh:bB prog 15:=⟨call15⟩
def Gp:bB prog 16:=⟨call16⟩
def Qi:bB prog 17:=⟨call17⟩
def Gq:bB prog 18:=⟨call18⟩
def Qj:bB prog 19:=⟨call19⟩
def u6:bB prog 20:=⟨call20⟩
def u7:bB prog 21:=⟨call21⟩
def j8:bB prog 26:=⟨call26⟩
def pL:bB prog 28:=⟨call28⟩
def Qk:bB prog 29:=⟨call29⟩
def Gr:bB prog 30:=⟨call30⟩
def u9:bB prog 35:=⟨call35⟩
def Gs:bB prog 46:=⟨call46⟩
def Ql:bB prog 47:=⟨call47⟩
def Gt:bB prog 48:=⟨call48⟩
def Qm:bB prog 49:=⟨call49⟩
def Qn:bB prog 50:=⟨call50⟩
def Qo:bB prog 51:=⟨call51⟩
def Qp:bB prog 52:=⟨call52⟩
def Qq:bB prog 53:=⟨call53⟩
def Qr:bB prog 54:=⟨call54⟩
def Qs:bB prog 55:=⟨call55⟩
def Qt:bB prog 56:=⟨call56⟩
def Qu:bB prog 57:=⟨call57⟩
def n0:bB prog 59:=⟨call59⟩
def Qv:bB prog 60:=⟨call60⟩
def Qw:bB prog 61:=⟨call61⟩
def va:bB prog 62:=⟨call62⟩
def Qx:bB prog 63:=⟨call63⟩
def Ao:bB prog 64:=⟨call64⟩
def Ap:bB prog 65:=⟨call65⟩
def Gu:bB prog 66:=⟨call66⟩
def Qy:bB prog 67:=⟨call67⟩
def Qz:bB prog 68:=⟨call68⟩
def Gv:bB prog 69:=⟨call69⟩
def Gw:bB prog 70:=⟨call70⟩
def ve:bB prog 71:=⟨call71⟩
def Gx:bB prog 72:=⟨call72⟩
def Aq:bB prog 73:=⟨call73⟩
def vf:bB prog 74:=⟨call74⟩
def QA:bB prog 75:=⟨call75⟩
def pM:bB prog 76:=⟨call76⟩
def rM:bB prog 77:=⟨call77⟩
def Gy:bB prog 78:=⟨call78⟩
def lX:bB prog 79:=⟨call79⟩
def Gz:bB prog 80:=⟨call80⟩
def rN:bB prog 81:=⟨call81⟩
def QB:bB prog 82:=⟨call82⟩
def Pp:bB prog 102:=⟨call102⟩
def Pq:bB prog 103:=⟨call103⟩
def Pr:bB prog 104:=⟨call104⟩
def Pt:bB prog 105:=⟨call105⟩
def j1:bB prog 106:=⟨call106⟩
def Pu:bB prog 107:=⟨call107⟩
def Pv:bB prog 108:=⟨call108⟩
def rE:bB prog 109:=⟨call109⟩
def FP:bB prog 110:=⟨call110⟩
def Pw:bB prog 111:=⟨call111⟩
def Px:bB prog 112:=⟨call112⟩
def Py:bB prog 113:=⟨call113⟩
def Pz:bB prog 114:=⟨call114⟩
def PA:bB prog 116:=⟨call116⟩
def PB:bB prog 117:=⟨call117⟩
def zT:bB prog 118:=⟨call118⟩
def nY:bB prog 119:=⟨call119⟩
def mG:bB prog 120:=⟨call120⟩
def FQ:bB prog 121:=⟨call121⟩
def uZ:bB prog 122:=⟨call122⟩
def PC:bB prog 123:=⟨call123⟩
def FR:bB prog 124:=⟨call124⟩
def rF:bB prog 126:=⟨call126⟩
def PD:bB prog 127:=⟨call127⟩
def zU:bB prog 129:=⟨call129⟩
def PE:bB prog 130:=⟨call130⟩
def FT:bB prog 131:=⟨call131⟩
def PF:bB prog 132:=⟨call132⟩
def OP:bB prog 133:=⟨call133⟩
def o8:bB prog 134:=⟨call134⟩
def zV:bB prog 135:=⟨call135⟩
def FU:bB prog 136:=⟨call136⟩
def FV:bB prog 137:=⟨call137⟩
def zW:bB prog 138:=⟨call138⟩
def OQ:bB prog 139:=⟨call139⟩
def OR:bB prog 140:=⟨call140⟩
def OS:bB prog 141:=⟨call141⟩
def u0:bB prog 142:=⟨call142⟩
def OT:bB prog 143:=⟨call143⟩
def OU:bB prog 144:=⟨call144⟩
def FY:bB prog 145:=⟨call145⟩
def OV:bB prog 146:=⟨call146⟩
def o9:bB prog 147:=⟨call147⟩
def u1:bB prog 148:=⟨call148⟩
def u2:bB prog 149:=⟨call149⟩
def zX:bB prog 150:=⟨call150⟩
def zY:bB prog 160:=⟨call160⟩
def FZ:bB prog 161:=⟨call161⟩
def F0:bB prog 162:=⟨call162⟩
def OW:bB prog 163:=⟨call163⟩
def F1:bB prog 164:=⟨call164⟩
def OX:bB prog 165:=⟨call165⟩
def OY:bB prog 166:=⟨call166⟩
def F2:bB prog 167:=⟨call167⟩
def OZ:bB prog 168:=⟨call168⟩
def O0:bB prog 169:=⟨call169⟩
def O1:bB prog 170:=⟨call170⟩
def O2:bB prog 171:=⟨call171⟩
def F3:bB prog 172:=⟨call172⟩
def O3:bB prog 173:=⟨call173⟩
def O4:bB prog 174:=⟨call174⟩
def O5:bB prog 176:=⟨call176⟩
def O6:bB prog 178:=⟨call178⟩
def O7:bB prog 180:=⟨call180⟩
def O8:bB prog 181:=⟨call181⟩
def O9:bB prog 182:=⟨call182⟩
def Pb:bB prog 188:=⟨call188⟩
def F4:bB prog 190:=⟨call190⟩
def u3:bB prog 191:=⟨call191⟩
def Pc:bB prog 192:=⟨call192⟩
def Pd:bB prog 195:=⟨call195⟩
def Pe:bB prog 196:=⟨call196⟩
def Pf:bB prog 197:=⟨call197⟩
def OF:bB prog 207:=⟨call207⟩
def OG:bB prog 216:=⟨call216⟩
def OH:bB prog 233:=⟨call233⟩
def OI:bB prog 234:=⟨call234⟩
def zZ:bB prog 257:=⟨call257⟩
def aG{N:Nat}{ids:List Nat}{y:Code}{SN:Exit->ah->W->Prop}{env:ah}{σ:W}{id:Nat}{ops:Array Oper}{di:Bool}(Y:List (Nat×Hint prog))(cu:ah)(σ2:W)(k:ar ⟨prog,N,ids⟩ y SN cu σ2)
  (a:mH bo N ids ops di (gF ops di Y).1 (gF ops di Y).2 [] Y (jY cu) σ2.ids env σ=some (cu,σ2,(gF ops di Y).2.map λi=>(hintOf Y i).exp):=by kernel_rfl):ar ⟨prog,N,ids⟩ (.seq (.region id ops di) y) SN env σ:=auT aY [] Y cu σ2 a k
def qA{N:Nat}{ids:List Nat}{SN:Exit->ah->W->Prop}{env:ah}{σ:W}{id:Nat}{ops:Array Oper}{di:Bool}(Y:List (Nat×Hint prog))(cu:ah)(σ2:W)(k:SN .normal cu σ2)
  (a:mH bo N ids ops di (gF ops di Y).1 (gF ops di Y).2 [] Y (jY cu) σ2.ids env σ=some (cu,σ2,(gF ops di Y).2.map λi=>(hintOf Y i).exp):=by kernel_rfl):ar ⟨prog,N,ids⟩ (.region id ops di) SN env σ:=A.R aY [] Y cu σ2 a k
def GA(n:Nat):List Nat->Bool
 |[]=>false
 |k::r=>bif Nat.beq k n then true else GA n r
def hv{α:Type}(ks:List Nat)(Wc:List (Nat×α)):List (Nat×α)->List (Nat×α)
 |[]=>Wc
 |p::l=>bif GA p.1 ks then hv ks Wc l else p::hv ks Wc l
section
variable {N:Nat}{ids:List Nat}{y:Code}{SN:Exit->ah->W->Prop}{env:ah}{σ:W}{id:Nat}{ops:Array Oper}{di:Bool}(Y:List (Nat×Hint prog))(ks:List Nat)(Wc:ah)(aeT:List Nat)(aeW:W)
def bD(k:ar ⟨prog,N,ids⟩ y SN (hv ks Wc env) (hv aeT aeW σ))
  (a:mH bo N ids ops di (gF ops di Y).1 (gF ops di Y).2 [] Y (jY (hv ks Wc env)) (W.ids (hv aeT aeW σ)) env σ=some (hv ks Wc env,hv aeT aeW σ,(gF ops di Y).2.map λi=>(hintOf Y i).exp):=by kernel_rfl):ar ⟨prog,N,ids⟩ (.seq (.region id ops di) y) SN env σ:=auT aY [] Y _ _ a k
def ak(k:ar ⟨prog,N,ids⟩ y SN (hv ks Wc env) σ)
  (a:mH bo N ids ops di (gF ops di Y).1 (gF ops di Y).2 [] Y (jY (hv ks Wc env)) σ.ids env σ=some (hv ks Wc env,σ,(gF ops di Y).2.map λi=>(hintOf Y i).exp):=by kernel_rfl):ar ⟨prog,N,ids⟩ (.seq (.region id ops di) y) SN env σ:=auT aY [] Y _ _ a k
def c6(k:SN .normal (hv ks Wc env) (hv aeT aeW σ))
  (a:mH bo N ids ops di (gF ops di Y).1 (gF ops di Y).2 [] Y (jY (hv ks Wc env)) (W.ids (hv aeT aeW σ)) env σ=some (hv ks Wc env,hv aeT aeW σ,(gF ops di Y).2.map λi=>(hintOf Y i).exp):=by kernel_rfl):ar ⟨prog,N,ids⟩ (.region id ops di) SN env σ:=A.R aY [] Y _ _ a k
def bn(k:SN .normal (hv ks Wc env) σ)
  (a:mH bo N ids ops di (gF ops di Y).1 (gF ops di Y).2 [] Y (jY (hv ks Wc env)) σ.ids env σ=some (hv ks Wc env,σ,(gF ops di Y).2.map λi=>(hintOf Y i).exp):=by kernel_rfl):ar ⟨prog,N,ids⟩ (.region id ops di) SN env σ:=A.R aY [] Y _ _ a k
end
def bk{N:Nat}{ids:List Nat}{a:Func}{env:ah}{σ σ2:W}{R:U}(d:Av bo ids [] σ2.ids a.results.toList env σ=some (R,σ2):=by kernel_rfl):
  h4 ⟨prog,N,ids⟩ a (λc b=>c=R/\b=σ2) .ret env σ:=auW aY [] rfl d
variable {G:bQ}
def cq{env cu:ah}{σ σ2:W}(a:pJ G.ids [] [] (jY cu) σ2.ids env σ=some (cu,σ2):=by kernel_rfl):bJ G env σ cu σ2:=bJ.go [] [] a
variable {SF:Type}{r:SF}
def aX{α:Type}{J:α->Option SF}{env:ah}{σ:W}{a:α->ah}{b:α->W}(g:α)(c:J g=some r)(d:pJ G.ids [] [] (jY (a g)) (b g).ids env σ=some (a g,b g):=by kernel_rfl):
  ∃g,J g=some r/\bJ G env σ (a g) (b g):=⟨g,c,bJ.go [] [] d⟩
variable {o:Operand}
def aT{p:Bool}{x y:Code}{SN:Exit->ah->W->Prop}{env:ah}{σ:W}(a:p=true)(k:ar G x SN env σ)(b:env.bS o=some (.bool p):=by kernel_rfl):ar G (.cond o x y) SN env σ:=au3 b a k
def aS{p:Bool}{x y:Code}{SN:Exit->ah->W->Prop}{env:ah}{σ:W}(a:p=false)(k:ar G y SN env σ)(b:env.bS o=some (.bool p):=by kernel_rfl):ar G (.cond o x y) SN env σ:=au1 b a k
def dJ{env cu:ah}{σ σ2:W}(a:List hR)(sl:List Nat)(b:pJ G.ids a sl (jY cu) σ2.ids env σ=some (cu,σ2):=by kernel_rfl):bJ G env σ cu σ2:=DR b
def Si{p:Bool}{x y:Code}{SN:Exit->ah->W->Prop}{env:ah}{σ:W}{s t:Option SF}(b:(bif p then s else t)=some r)(de:p=true->s=some r->ar G x SN env σ)(aZ:p=false->t=some r->ar G y SN env σ)(c:env.bS o=some (.bool p):=by kernel_rfl):ar G (.cond o x y) SN env σ:=by
 rcases aV b with⟨a,b⟩|⟨a,b⟩
 .exact au3 c a (de a b)
 .exact au1 c a (aZ a b)
abbrev U.d(p:Prop)[Decidable p]:U:=.bool (decide p)
abbrev b1.c(T:TypeId)(cs:List U):b1:=.cells T cs
abbrev u(n:Int):U:=.int .i64 n
abbrev aD{α:Type}(e:fx α)(l:List α):U:=.aL false (ag e l)
abbrev g5(x:ck):List U:=[.int .i64 x.b7,.bool x.uu]
abbrev de(x:bU):List U:=[.int .i64 x.A,.int .i64 x.B,.int .i64 x.eE,.int .i64 x.eP,.int .i64 x.lJ]
abbrev aZ(x:aK):List U:=[.aL false (ag cp x.aP),.aL false (ag cC x.Links)]
abbrev ec(x:aQ):List U:=[.int .i64 x.aO,.int .i64 x.aJ]
abbrev l9(x:bm):List U:=[.int .i64 x.Hop.aO,.int .i64 x.Hop.aJ,.int .i64 x.b6]
abbrev dj(x:bR):List U:=[.aL false (ag af x.L),.int .i64 x.At]
abbrev c8(x:b0):List U:=[.int .i64 x.cH,.aL false (ag bl x.Links)]
abbrev nm(x:cL):List U:=[.int .i64 x.dm,.int .i64 x.fS]
abbrev i0(x:bI):List U:=[.aL false (ag af x.aP),.int .i64 x.Value]
abbrev kZ:=List bm
abbrev lR:=List aQ
abbrev mR:=List bI
abbrev mZ:=List cL
abbrev oK:=List bU
abbrev oO:=List ck
abbrev oW:=List aK
abbrev q6:=List (List bI)
end
section
set_option linter.all false
open Go
section
structure mQ(A:Type) where
 src:A->Int
 dst:A->Int
 cost:A->Int
section net
variable {A:Type}[DecidableEq A](N:mQ A)
inductive dk(H:List A):Int->Int->Prop
 |refl (v:Int):dk H v v
 |step {au:Int} (a:A) (ax:a∈H) (h:dk H (N.dst a) au):dk H (N.src a) au
def dU(H:List A):Int:=(H.map N.cost).sum
variable {N}
def dk.mono{H K:List A}{v au:Int}(h:dk N H v au)(Y:∀a∈H,a∈K):dk N K v au:=by
 induction h with
 |refl v=>exact .refl v
 |step a D _ u=>exact .step a (Y a D) u
def dk.trans{H:List A}{v au t:Int}(h:dk N H v au)(u:dk N H au t):dk N H v t:=by
 induction h with
 |refl v=>exact u
 |step a F _ D=>exact .step a F (D u)
def dk.one{H:List A}{a:A}(u:a∈H):dk N H (N.src a) (N.dst a):=.step a u (.refl _)
theorem Ks(v:Int){H:List A}{x t:Int}(f:dk N H x t):dk N (H.filter λa=>!decide (N.src a=v)) x t\/∃e∈H,N.src e=v/\dk N (H.filter λa=>!decide (N.src a=v)) (N.dst e) t:=by
 induction f with
 |refl v=>exact .inl (.refl v)
 |step a d _ b=>
  rcases b with b|b
  .by_cases c:N.src a=v
   .grind
   .exact .inl (.step a (List.mem_filter.2 ⟨d,by simp[c]⟩) b)
  .exact .inr b
def BX{H:List A}{v t:Int}(b:dk N H v t)(d:v≠t):∃e∈H,N.src e=v/\dk N (H.filter λa=>!decide (N.src a=v)) (N.dst e) t:=by
 rcases Ks v b with b|b
 .generalize c:v=g at b;cases b with
  |refl _=>exact absurd c d
  |step a f b=>
   have:=(List.mem_filter.1 f).2;simp at this
 .exact b
def jT(a:A)(H:List A):dU N (a::H)=N.cost a+dU N H:=by simp[dU]
def Cg(H K:List A):dU N (H++K)=dU N H+dU N K:=by
 induction H with
 |nil=>simp[dU]
 |cons a H b=>rw[List.cons_append,jT,jT,b];omega
def xg{H:List A}(b:∀a∈H,0<=N.cost a):0<=dU N H:=by
 induction H with
 |nil=>simp[dU]
 |cons a H c=>
  rw[jT];have g:=b a (by simp);have f:=c λe d=>b e (by simp[d]);omega
theorem qq{e:A}:∀{H:List A},e∈H->dU N H=N.cost e+dU N (H.erase e)
 |[],b=>by cases b
 |a::H,b=>by
  by_cases c:a=e
  .subst c;rw[List.erase_cons_head,jT]
  .rw[List.erase_cons_tail (by simpa using c),jT,jT,qq (H:=H) (by
    rcases List.mem_cons.1 b with b|b
    .grind
    .exact b)]
   omega
def CC(p:A->Bool):∀(H:List A),dU N H=dU N (H.filter p)+dU N (H.filter λa=>!p a)
 |[]=>rfl
 |a::H=>by
  rw[jT,CC p H];cases b:p a with
  |true=>rw[List.filter_cons_of_pos (by simp[b]),List.filter_cons_of_neg (by simp[b]),jT];omega
  |false=>rw[List.filter_cons_of_neg (by simp[b]),List.filter_cons_of_pos (by simp[b]),jT];omega
theorem zq(p:Nat->Bool):∀k:Nat,∃m,m<2 ^ k/\∀i,m.testBit i=(decide (i<k)&&p i)
 |0=>⟨0,by simp,λi=>by simp⟩
 |k+1=>by
  obtain⟨m,b,a⟩:=zq p k;refine⟨m ||| (if p k then 2 ^ k else 0),Nat.or_lt_two_pow (Nat.lt_of_lt_of_le b (Nat.pow_le_pow_right (by omega) (by omega))) (by split;exact Nat.pow_lt_pow_right (by omega) (by omega);exact Nat.two_pow_pos _),λi=>?_⟩;rw[Nat.testBit_or,a];by_cases c:i=k
  .grind
  .grind
theorem Ls{S i:Nat}(a:S.testBit i=true):0<S:=by grind
def CD{S:Nat}(c:0<S):∃i,S.testBit i=true:=by
 apply Classical.byContradiction;intro b
 have:S=0:=Nat.eq_of_testBit_eq λi=>by
  cases a:S.testBit i with
  |true=>exact absurd ⟨i,a⟩ b
  |false=>simp
 omega
def zF{S k i:Nat}(b:S<2 ^ k)(a:S.testBit i=true):i<k:=by
 apply Classical.byContradiction;intro c;rw[Nat.testBit_lt_two_pow (Nat.lt_of_lt_of_le b (Nat.pow_le_pow_right (by omega) (by omega)))]at a;cases a
theorem BY{S k:Nat}(f:S<2 ^ k)(p:Nat->Bool):∃P R,P &&& R=0/\P ||| R=S/\(∀i,P.testBit i=(S.testBit i&&p i))/\∀i,R.testBit i=(S.testBit i&&!p i):=by
 obtain⟨P,_,g⟩:=zq (λi=>S.testBit i&&p i) k;obtain⟨R,_,b⟩:=zq (λi=>S.testBit i&&!p i) k
 have a:∀i,(decide (i<k)&&S.testBit i)=S.testBit i:=λi=>by
  cases c:S.testBit i with
  |true=>simp[zF f c]
  |false=>simp
 have d:∀i,P.testBit i=(S.testBit i&&p i):=λi=>by rw[g,<-Bool.and_assoc,a]
 have e:∀i,R.testBit i=(S.testBit i&&!p i):=λi=>by rw[b,<-Bool.and_assoc,a]
 refine⟨P,R,Nat.eq_of_testBit_eq λi=>?_,Nat.eq_of_testBit_eq λi=>?_,d,e⟩
 all_goals grind
theorem nI{S P R:Nat}(c:P &&& R=0)(a:P ||| R=S)(b:0<R):P<S:=by
 have d:P<=S:=by rw[<-a];exact Nat.left_le_or
 grind
structure uk(N:mQ A)(L:List A)(k:Nat)(ts:Nat->Int)(C:Nat->Int->Int):Prop where
 pos:∀a∈L,0<=N.cost a
 one:∀i,i<k->C (2 ^ i) (ts i)<=0
 hop:∀S,0<S->S<2 ^ k->∀a∈L,C S (N.src a)<=N.cost a+C S (N.dst a)
 part:∀S P R,S<2 ^ k->0<P->0<R->P &&& R=0->P ||| R=S->∀v,C S v<=C P v+C R v
theorem uk.le{L:List A}{k:Nat}{ts:Nat->Int}{C:Nat->Int->Int}(h:uk N L k ts C):∀(n:Nat) (H:List A),H.length<=n->(∀a∈H,a∈L)->∀(S:Nat),0<S->S<2 ^ k->∀v,(∀i,S.testBit i=true->dk N H v (ts i))->C S v<=dU N H:=by
 classical
 intro n;induction n with
 |zero=>
  intro H a0 ao S;have aX:H=[]:=List.eq_nil_of_length_eq_zero (by omega);subst aX;induction S using Nat.strongRecOn with
  |_ S ax=>
   intro an Q v ag;obtain⟨i,u⟩:=CD an;have az:=zF Q u;have aC:v=ts i:=by
    have:=ag i u;cases this with
    |refl _=>rfl
    |step a D _=>cases D
   obtain⟨P,R,aa,O,ab,ai⟩:=BY Q (λj=>decide (j=i))
   have af:P=2 ^ i:=Nat.eq_of_testBit_eq λj=>by
    rw[ab,Nat.testBit_two_pow];by_cases X:j=i
    .grind
    .grind
   rcases Nat.eq_zero_or_pos R with F|F
   .have:S=P:=by rw[<-O,F];simp
    rw[this,af,aC];have:=h.one i az;simpa [dU]using this
   .have aq:=h.part S P R Q (by rw[af];exact Nat.two_pow_pos _) F aa O v;have ak:=ax R (nI (by rw[Nat.and_comm];exact aa) (by rw[Nat.or_comm];exact O) (by rw[af];exact Nat.two_pow_pos _)) F (by have:R<=S:=by{rw[<-O];exact Nat.right_le_or};omega) v (λj X=>ag j (by rw[ai]at X;simp at X;exact X.1));have aD:=h.one i az
    grind
 |succ n ae=>
  intro H a0 ao S;have bh:0<=dU N H:=xg λa D=>h.pos a (ao a D);induction S using Nat.strongRecOn with
  |_ S ax=>
   intro an Q v ag;by_cases aR:∃i,S.testBit i=true/\ts i=v
   .obtain⟨i,u,aC⟩:=aR;have az:=zF Q u;obtain⟨P,R,aa,O,ab,ai⟩:=BY Q (λj=>decide (j=i))
    have af:P=2 ^ i:=Nat.eq_of_testBit_eq λj=>by
     rw[ab,Nat.testBit_two_pow];by_cases X:j=i
     .grind
     .grind
    have aD:=h.one i az;rw[aC,<-af]at aD;rcases Nat.eq_zero_or_pos R with F|F
    .grind
    .have aq:=h.part S P R Q (by rw[af];exact Nat.two_pow_pos _) F aa O v;have ak:=ax R (nI (by rw[Nat.and_comm];exact aa) (by rw[Nat.or_comm];exact O) (by rw[af];exact Nat.two_pow_pos _)) F (by have:R<=S:=by{rw[<-O];exact Nat.right_le_or};omega) v (λj X=>ag j (by rw[ai]at X;simp at X;exact X.1));omega
   .have kz:∀i,S.testBit i=true->v≠ts i:=λi u e=>aR ⟨i,u,e.symm⟩;obtain⟨aE,aF⟩:=CD an;obtain⟨e,ar,aT,a8⟩:=BX (ag aE aF) (kz aE aF)
    have aU:∀a∈H.filter (λa=>!decide (N.src a=v)),a∈H.erase e:=λa D=>by
     obtain⟨aq,ak⟩:=List.mem_filter.1 D;refine(List.mem_erase_of_ne λa7=>?_).2 aq;subst a7;simp[aT]at ak
    have a5:=a8.mono aU;have aG:∀a∈H.erase e,a∈L:=λa D=>ao a (List.mem_of_mem_erase D);have aM:(H.erase e).length<=n:=by rw[List.length_erase_of_mem ar];omega
    have bk:=qq (N:=N) ar;obtain⟨P,R,aa,O,ab,ai⟩:=BY Q (λi=>decide (dk N (H.erase e) (N.dst e) (ts i)));have a6:P.testBit aE=true:=by rw[ab];simp[aF,a5]
    have aA:=Ls a6;rcases Nat.eq_zero_or_pos R with F|F
    .have aq:=ae (H.erase e) aM aG S an Q (N.dst e) (λi u=>by
      have am:=ai i;rw[F,u]at am;simp at am;exact am)
     have ak:=h.hop S an Q e (ao e ar)
     grind
    .let q:A->Bool:=λa=>decide (dk N (H.erase e) (N.dst e) (N.src a))
     have a4:P<S:=nI aa O F;have bj:R<S:=nI (by rw[Nat.and_comm];exact aa) (by rw[Nat.or_comm];exact O) aA
     have stay:∀{x t:Int},dk N (H.erase e) x t->dk N (H.erase e) (N.dst e) x->dk N ((H.erase e).filter q) x t:=λ{x t} aB=>by
      induction aB with
      |refl v=>intro _;exact .refl v
      |step a D _ ae=>intro aw;exact .step a (List.mem_filter.2 ⟨D,decide_eq_true aw⟩) (ae (aw.trans (.one D)))
     have off:∀{x t:Int},dk N (H.erase e) x t->¬dk N (H.erase e) (N.dst e) t->dk N ((H.erase e).filter λa=>!q a) x t:=λ{x t} aB=>by
      induction aB with
      |refl v=>intro _;exact .refl v
      |step a D a9 ae=>
       intro aw;refine .step a (List.mem_filter.2 ⟨D,?_⟩) (ae aw);have:¬dk N (H.erase e) (N.dst e) (N.src a):=λam=>aw (am.trans (.step a D a9));simp only[q,this,decide_false,Bool.not_false]
     have aq:=h.part S P R Q aA F aa O v;have bi:=CC (N:=N) q (H.erase e);have ba:dU N (e::(H.erase e).filter q)=N.cost e+dU N ((H.erase e).filter q):=jT _ _;have ak:C P v<=dU N (e::(H.erase e).filter q):=by
      by_cases aV:(e::(H.erase e).filter q).length<=n
      .refine ae _ aV (λa D=>?_) P aA (by omega) v λi u=>?_
       .rcases List.mem_cons.1 D with rfl|D
        .exact ao _ ar
        .exact aG a (List.mem_filter.1 D).1
       .rw[ab]at u;simp only[Bool.and_eq_true,decide_eq_true_eq]at u;rw[<-aT];exact .step e (by simp) ((stay u.2 (.refl _)).mono λa D=>List.mem_cons.2 (.inr D))
      ·
       have be:dU N ((H.erase e).filter q)=dU N (H.erase e):=by
        have bg:=List.length_filter_le q (H.erase e);have bf:=List.length_erase_of_mem ar;have bA:(H.erase e).length<=((H.erase e).filter q).length:=by
         simp only[List.length_cons]at aV;omega
        rw[List.filter_eq_self.2 (List.length_filter_eq_length_iff.1 (by omega))]
       have bc:=ax P a4 aA (by omega) v (λi u=>ag i (by rw[ab]at u;simp at u;exact u.1));omega
     have aD:C R v<=dU N ((H.erase e).filter λa=>!q a):=by
      refine ae _ (Nat.le_trans (List.length_filter_le _ _) aM) (λa D=>aG a (List.mem_filter.1 D).1) R F (by omega) v λi u=>?_;rw[ai]at u;simp only[Bool.and_eq_true,Bool.not_eq_true',decide_eq_false_iff_not]at u;obtain⟨aI,aZ,a1,aY⟩:=BX (ag i u.1) (kz i u.1);have aS:=aY.mono aU;have aW:aI≠e:=λh=>by subst h;exact u.2 aS
      have a3:aI∈H.erase e:=(List.mem_erase_of_ne aW).2 aZ;refine off ?_ u.2;rw[<-a1];exact .step aI a3 aS
     omega
end net
end
section
section net2
variable {A:Type}[DecidableEq A]{N:mQ A}
inductive g0(N:mQ A)(L:List A)(k:Nat)(ts:Nat->Int):Nat->Int->List A->Prop
 |one (i:Nat):i<k->g0 N L k ts (2 ^ i) (ts i) []
 |hop {S:Nat} {H:List A} (a:A):a∈L->g0 N L k ts S (N.dst a) H->g0 N L k ts S (N.src a) (a::H)
 |part {P R:Nat} {v:Int} {H K:List A}:P &&& R=0->g0 N L k ts P v H->g0 N L k ts R v K->g0 N L k ts (P ||| R) v (H++K)
variable {S k:Nat}
def g0.sub{L:List A}{ts:Nat->Int}{v:Int}{H:List A}(h:g0 N L k ts S v H):∀a∈H,a∈L:=by
 induction h with
 |one i _=>intro a D;cases D
 |hop a D _ O=>
  intro b u;rcases List.mem_cons.1 u with rfl|u
  .exact D
  .exact O b u
 |part _ _ _ h1 F=>
  intro b u;rcases List.mem_append.1 u with u|u
  .exact h1 b u
  .exact F b u
def g0.lZ{L:List A}{ts:Nat->Int}{v:Int}{H:List A}(h:g0 N L k ts S v H):∀i,S.testBit i=true->dk N H v (ts i):=by
 induction h with
 |one i _=>
  intro j F;rw[Nat.testBit_two_pow]at F;have:i=j:=by simpa using F
  subst this;exact .refl _
 |hop a X _ Q=>exact λi u=>.step a (by simp) ((Q i u).mono λb D=>List.mem_cons.2 (.inr D))
 |part _ _ _ h1 O=>
  intro i u;rw[Nat.testBit_or,Bool.or_eq_true]at u;rcases u with u|u
  .exact(h1 i u).mono λb D=>List.mem_append.2 (.inl D)
  .exact(O i u).mono λb D=>List.mem_append.2 (.inr D)
structure iq(N:mQ A)(L:List A)(T:Int->Prop)(v:Int)(H:List A):Prop where
 sub:∀a∈H,a∈L
 pos:∀a∈L,0<N.cost a
 lZ:∀t,T t->dk N H v t
 min:∀K,(∀a∈K,a∈L)->(∀t,T t->dk N K v t)->dU N H<=dU N K
variable {L:List A}{T:Int->Prop}{v:Int}{H:List A}
def iq.need(h:iq N L T v H){a:A}(u:a∈H)(F:∀t,T t->dk N (H.erase a) v t):False:=by
 have X:=h.min (H.erase a) (λb D=>h.sub b (List.mem_of_mem_erase D)) F;have O:=qq (N:=N) u;have Q:=h.pos a (h.sub a u);omega
theorem iq.once(h:iq N L T v H){a:A}(F:a∈H):a∉H.erase a:=λu=>h.need F λt D=>(h.lZ t D).mono λb O=>by
 by_cases kv:b=a
 .rw[kv];exact u
 .grind
def Ch:∀{H:List A},(∀a∈H,a∉H.erase a)->H.Nodup
 |[],_=>List.nodup_nil
 |a::H,h=>by
  have c:a∉H:=by have:=h a (by simp);rwa [List.erase_cons_head]at this
  refine List.nodup_cons.2 ⟨c,Ch λd b e=>?_⟩;have f:a≠d:=λg=>c (g▸b);refine h d (List.mem_cons.2 (.inr b)) ?_;rw[List.erase_cons_tail (by simpa using f)];exact List.mem_cons.2 (.inr e)
def iq.nodup(h:iq N L T v H):H.Nodup:=Ch λ_ u=>h.once u
def yu{x y:Int}(i:dk N H x y):x=y\/∃e∈H,N.dst e=y/\dk N (H.filter λa=>!decide (N.dst a=y)) x (N.src e):=by
 induction i with
 |refl v=>exact .inl rfl
 |@step h a d k b=>
  by_cases c:N.dst a=h
  .exact .inr ⟨a,d,c,.refl _⟩
  .rcases b with b|⟨e,j,f,g⟩
   .omega
   .exact .inr ⟨e,j,f,.step a (List.mem_filter.2 ⟨d,by simp[c]⟩) g⟩
end net2
end
end
section
set_option linter.all false
open Go
noncomputable instance Sd:DecidableEq bm:=λ_ _=>Classical.propDecidable _
def cR:mQ bm:=⟨λa=>a.Hop.aO,λa=>a.Hop.aJ,λa=>a.b6⟩
structure lN(av:List bm):Prop where
 cost:∀a∈av,1<=a.b6/\a.b6<=1000
 to:∀a∈av,a.Hop.aJ≠0
 hop:∀a∈av,∀b∈av,a.Hop=b.Hop->a=b
 len:av.length<=1000
structure pR(av:List bm)(root:Int)(ts:List Int)(Y:List aQ)(c:Int):Prop where
 ex:∃ey:kZ,iq cR av (λt=>t∈ts) root ey/\dU cR ey=c/\Y.Perm (ey.map (·.Hop))
 iu:Y.Pairwise λa b=>c9 [λx:aQ=>x.aO,λx:aQ=>x.aJ] a b<0
def B8(av:kZ)(root:Int)(ts:bH)(r:lR×Int×Bool):Prop:=(r.2.2=true/\pR av root ts r.1 r.2.1)\/(r=([],0,false)/\¬∀a,a∈ts->dk cR av root a)
noncomputable def wH{β:Type}(av:kZ)(root:Int)(ts:bH)(K:(lR×Int×Bool)->Option β):Option β:=@ite _ (lN av/\ts.length<=6) (Classical.propDecidable _) (rL (B8 av root ts) K) none
def dZ:bH->bH
 |[]=>[]
 |x::r=>match dZ r with
  |[]=>[x]
  |y::s=>if x=y then y::s else x::y::s
def eA(m:List (Int×Int))(r:Int):Int:=(ay m r).getD 2305843009213693951
def iP(s:List (Int×Int)×Bool)(a:bm):List (Int×Int)×Bool:=if a.b6+eA s.1 a.Hop.aJ<eA s.1 a.Hop.aO then(bc s.1 a.Hop.aO (a.b6+eA s.1 a.Hop.aJ),true)else s
def nZ(av:kZ)(m:List (Int×Int)):List (Int×Int)×Bool:=av.foldl iP (m,false)
inductive j9(av:List bm):List (Int×Int)->List (Int×Int)->Prop
 |done {m:List (Int×Int)} (h:(nZ av m).2=false):j9 av m m
 |more {m n:List (Int×Int)} (h:(nZ av m).2=true) (aq:j9 av (nZ av m).1 n):j9 av m n
variable {av:kZ}
def j9.unique{m n:List (Int×Int)}(h:j9 av m n):∀{D:List (Int×Int)},j9 av m D->D=n:=by
 induction h with
 |done h=>intro D F;cases F with
  |done _=>rfl
  |more u _=>rw[h]at u;cases u
 |more h _ O=>intro D F;cases F with
  |done u=>rw[h]at u;cases u
  |more _ Q=>exact O Q
def iF(av:kZ):Prop:=∀a∈av,0<=a.b6/\a.b6<=1000000
noncomputable def oz(av:kZ)(target:Int):Option (List (Int×Int)):=@dite _ (iF av/\∃b,j9 av [(target,0)] b) (Classical.propDecidable _) (λa=>some (Classical.choose a.2)) (λ_=>none)
variable {t:Int}
def H8{n:List (Int×Int)}(a:oz av t=some n):iF av/\j9 av [(t,0)] n:=by
 unfold oz at a;split at a
 .rename_i b;cases a;exact⟨b.1,Classical.choose_spec b.2⟩
 .cases a
def Ii{n:List (Int×Int)}(b:iF av)(a:j9 av [(t,0)] n):oz av t=some n:=by
 unfold oz;rw[dif_pos ⟨b,n,a⟩];exact congrArg some (a.unique (Classical.choose_spec _))
end
end Go.Proofs.YtmnbolcmepihlaaGreat
