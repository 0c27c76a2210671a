/- Several texts in one. No condition but those that stand in each. -/
import Derived.Test.YtmnbolcmepihlaaGreatB7
import Derived.Test.YtmnbolcmepihlaaGreatA18
import Derived.Test.YtmnbolcmepihlaaGreatAC
namespace Go.Proofs.YtmnbolcmepihlaaGreat
set_option linter.all false
open Go
section
section
theorem b9.row{I aS:bw}(hle:b7 I aS){b:Nat}:∀(cs:List U) (vs:List Value) (o:Nat),b9 I cs vs→(∀j,j<vs.length→aS b ((o+j:Nat):Option Nat)=vs[j]?)→jY aS b cs o
 |[],_,_,_,_=>by simp[jY]
 |x::r,vs,o,h,aM=>by
  simp only[b9]at h;obtain⟨ay,bF,rfl,h1,D⟩:=h;simp only[jY];refine⟨⟨ay,?_,jy hle _ _ h1⟩,b9.row hle r bF (o+1) D λj nZ=>?_⟩
  ·have:=aM 0 (by simp);simpa using this
  ·have:=aM (j+1) (by simp;omega);rw[show o+1+j=o+(j+1)by omega];simpa using this
theorem b8.KC{G:cq}{env:ai}{σ:Y}(t C:Nat){T:Nat}{cs:List U}(bB:env.get t=.ptr C 0)(s0:σ.get C=some (.cells T cs))(aa:kL cs=true):b8 G env σ ((t,.fP cs)::env) (σ.minus [C]):=by
 intro cx I β a w h dc;have aj:=h.cB C _ s0;simp only[aU]at aj;have aB:=dc t;rw[bB]at aB;simp only[ar]at aB;obtain⟨b,V,ahz⟩:=aB;rcases aj with q|⟨aN,arr,an,au,aK,aG,bb⟩
 ·rw[q]at V;simp[bV]at V
 ·have pW:aN=b:=by rw[an]at V;simpa [bV]using V
  subst pW
  let aS:bw:=I.on λdJ o=>if dJ=aN then arr[o]? else I dJ o
  have hle:b7 I aS:=λdJ o v af=>by
   cases o with
   |none=>exact af
   |some o=>
   show(if dJ=aN then arr[o]? else I dJ o)=some v;split
   ·rename_i cb;subst cb;rw[aG]at af;cases af
   ·exact af
  have iI:∀dJ o,dJ≠aN→aS dJ o=I dJ o:=λdJ o ct=>by
   cases o with
   |none=>rfl
   |some o=>
   show(if dJ=aN then arr[o]? else I dJ o)=_;rw[if_neg ct]
  have B7:∀d o,(σ.minus [C]).get d=some o→d≠C∧σ.get d=some o:=λd o Z=>by
   rw[Y.jW]at Z;split at Z
   ·cases Z
   ·rename_i hm;exact⟨by simpa using hm,Z⟩
  have Pw:∀d,((σ.minus [C]).get d).isSome→(σ.get d).isSome:=λd Z=>by
   obtain⟨o,aj⟩:=Option.isSome_iff_exists.1 Z;rw[(B7 d o aj).2];rfl
  have h0:jY aS aN cs 0:=b9.row hle cs arr.toList 0 (Lk aa aK) λj aM=>by
   show(if aN=aN then arr[0+j]? else I aN (some (0+j)))=_;rw[if_pos rfl];simp
  refine⟨aS,β,{good:=λdJ o v af=>?_,h9:=h.h9,ja:=λdJ o v af=>hle _ _ _ (h.ja _ _ _ af),iL:=λdJ fZ aT o=>?_,frame:=h.frame,size:=h.size,tape:=h.tape,os:=h.os,output:=h.output,drawn:=h.drawn,cB:=λd o Z=>?_,dn:=λd eD Z dw=>h.dn d eD (Pw d Z) (Pw eD dw),keep:=h.keep},λDk=>?_⟩
  ·change (if dJ=aN then arr[o]? else I dJ o)=some v at af
   split at af
   ·rename_i cb;subst cb;simp only[World.cell?,au];simpa using af
   ·exact h.good dJ o v af
  ·have ct:dJ≠aN:=λe=>by
    subst e;rcases bb with q|q
    ·omega
    ·exact aT q
   rw[iI dJ o ct];exact h.iL dJ fZ aT o
  ·obtain⟨agx,xM⟩:=B7 d o Z;refine(h.cB d o xM).Kn hle iI λdJ fZ cw=>?_;subst cw;exact h.dn d C (by rw[xM];rfl) (by rw[s0];rfl) agx dJ fZ (je V)
  ·rw[ai.c4];split
   ·rename_i e;subst e
    simp only[ar,aO];exact⟨aN,0,ahz,h0⟩
   ·exact(dc.mono hle (g0.refl β)) Dk
theorem Mc{a:Act}{t:Nat}{v:Value}(h:t<a.tmps.size):(a.put (some t) v).eval (.tmp t)=v:=by
 simp[Act.put,Act.eval,Array.getD,h]
theorem Dp{a:Act}{t Dk:Nat}{v:Value}(h:t≠Dk):(a.put (some t) v).eval (.tmp Dk)=a.eval (.tmp Dk):=by
 simp[Act.put,Act.eval,Array.getD_eq_getD_getElem?,Array.getElem?_setIfInBounds,h]
theorem F0{P:Program}{ops:Array Oper}{Q:Exit→Act→World→Prop}{i:Nat}{l:List Nat}{a:Act}{w w':World}{o:Oper}{v:Value}(aj:ops[i]?=some o)(bl:o.guard=none)(ax:(execOp a.eval o).run P w=.ok (.value v) w')
  (k:wpOps P ops Q l (a.put o.dst v) w'):wpOps P ops Q (i::l) a w:=by
 have aq:Region.wanted o (yielded ops a.tmps)=true:=by simp[Region.wanted,bl]
 simp only[wpOps,aj,aq,if_true];exact .inl (kM.wp (Φ:=λdI g5=>dI=v∧g5=w') (by rw[ax];exact⟨rfl,rfl⟩) λdI g5 h=>by obtain⟨rfl,rfl⟩:=h;exact k)
theorem Ld{α:Type}{sz:Nat}:∀(xs:List (List α)) (n:Nat),(∀e∈xs,e.length=sz)→(xs.take n).flatten=xs.flatten.take (n*sz)
 |[],_,_=>by simp
 |x::r,0,_=>by simp
 |x::r,n+1,h=>by
  have u:=h x (by simp);rw[List.take_succ_cons,List.flatten_cons,List.flatten_cons,Ld r n λe he=>h e (by simp[he]),Nat.add_mul,Nat.one_mul,Nat.add_comm (n*sz) sz,List.take_append,u];rw[List.take_of_length_le (l:=x) (by omega),Nat.add_sub_cancel_left]
theorem Tg(z:Array Value):∀m,(Builtin.zeroCells z m).toList=(List.replicate m z.toList).flatten:=by
 intro m;apply List.ext_getElem?;intro j;induction m generalizing j with
 |zero=>simp[Builtin.zeroCells]
 |succ m bD=>
  rw[List.replicate_succ,List.flatten_cons];unfold Builtin.zeroCells at bD ⊢;simp only[Array.toList_map,List.getElem?_map,Array.toList_range]at bD ⊢;by_cases aM:j<z.size
  ·rw[List.getElem?_append_left (by simpa using aM),List.getElem?_range (by rw[Nat.add_mul];omega)];simp[Nat.mod_eq_of_lt aM,aM]
  ·rw[List.getElem?_append_right (by simpa using aM)];have:=bD (j-z.size);simp only[Array.length_toList];rw[←this];by_cases jo:j<(m+1)*z.size
   ·rw[List.getElem?_range jo,List.getElem?_range (by rw[Nat.add_mul]at jo;omega)];simp[←Nat.mod_eq_sub_mod (by omega:j≥z.size)]
   ·rw[List.getElem?_eq_none (by simp;omega),List.getElem?_eq_none (by simp;rw[Nat.add_mul]at jo;omega)]
theorem UF{I:bw}{zr:List U}{zs:List Value}(h:b9 I zr zs):∀m,b9 I (List.replicate m zr).flatten (List.replicate m zs).flatten
 |0=>by simp[b9]
 |m+1=>by
  rw[List.replicate_succ,List.flatten_cons,List.replicate_succ,List.flatten_cons];exact(lN _ _ _).2 ⟨_,_,rfl,h,UF h m⟩
theorem Wc{α:Type}(m:Nat)(l:List α):(List.replicate m l).flatten.length=m*l.length:=by
 induction m with
 |zero=>simp
 |succ m bD=>rw[List.replicate_succ,List.flatten_cons,List.length_append,bD,Nat.add_mul];omega
theorem abP{α:Type}(e:iU α)(l:List α)(n:Nat)(z:α):(aD e l).take n++List.replicate ((aD e l).length-n) (e.enc z)=aD e (l.take n++List.replicate (l.length-n) z):=by simp[aD,List.map_take]
theorem aee{α:Type}(e:iU α){l:List α}{i:Int}(h:0≤i∧i<(l.length:Int)):0≤i∧i<((aD e l).length:Int):=by rw[mD];exact h
theorem A.afu{G:cq}{Q:Exit→ai→Y→Prop}{env:ai}{σ:Y}{id T:Nat}(ts wQ t1 t2 t3 E sz d:Nat){eG gd ey m5:Oper}{xs:List (List U)}{i:Int}{z:Value}{zr:List U}
  (bJ:eG.op=.move (.tmp ts)∧eG.dst=some t1∧eG.guard=none) (h1:gd.op=.move (.tmp wQ)∧gd.dst=some t2∧gd.guard=none)
  (D:ey.op=.slice T (.tmp t1) (some (.tmp t2)) none none∧ey.dst=some t3∧ey.guard=none) (ak:m5.op=.call ⟨.builtin .clear,#[.tmp t3],#[T]⟩∧m5.dst=none∧m5.guard=none)
  (mV:t1<G.N∧t2<G.N∧t3<G.N) (ct:t1≠t2∧t1≠t3∧t2≠t3∧t1≠wQ) (aH:jh G.P T E sz) (hz:∀w,(zeroValue E).run G.P w=.ok z w) (i6:∀v∈z.cells.toList,v.oneCell'=true) (SI:∀I,b9 I zr z.cells.toList) (E4:z.cells.size=sz)
  (W:env.get ts=.own d) (hi:env.get wQ=.int .i64 i) (Z:σ.get d=some (.slice E sz xs 0 false)) (ag3:0≤i∧i<xs.length) (he:env.get t1=.gq∧env.get t2=.gq∧env.get t3=.gq)
  {bu:List (List U)} (qV:xs.take i.toNat++List.replicate (xs.length-i.toNat) zr=bu) (k:Q .normal env (σ.set d (.slice E sz bu 0 false))):aY G (.region id #[eG,gd,ey,m5] false) Q env σ:=by
 subst qV;refine aY.of λcx a w ax=>?_;obtain⟨I,β,aq,bB,jH,xN⟩:=ax;have aA:=bB ts;rw[W]at aA;simp only[ar]at aA
 obtain⟨aA,RD⟩:=aA;have e2:=bB wQ;rw[hi]at e2;have e2:=iH e2
 have aj:=aq.cB d _ Z;simp only[aU]at aj;rcases aj with q|⟨q,au,_⟩|⟨b,aF,arr,an,au,aK,aG,bb,bC,bY,cK,di,ec,e3⟩
 ·rw[aA,q]at RD;cases RD
 ·subst au;simp at ag3;omega
 obtain⟨n,rfl⟩:∃n:Nat,i=(n:Int):=⟨i.toNat,by omega⟩;have aT:n<xs.length:=by omega
 simp only[Int.toNat_natCast]at k ⊢;have e0:a.eval (.tmp ts)=.slice (some ⟨b,0,none⟩) xs.length aF:=by rw[←an];exact aA
 have e2:a.eval (.tmp wQ)=.int .i64 n:=e2;obtain⟨jj,xJ⟩:∃jj,jj=a.put (some t1) (.slice (some ⟨b,0,none⟩) xs.length aF):=⟨_,rfl⟩;obtain⟨a2,uh⟩:∃a2,a2=jj.put (some t2) (.int .i64 n):=⟨_,rfl⟩;obtain⟨a3,BX⟩:∃a3,a3=a2.put (some t3) (.slice (some ⟨b,n*sz,none⟩) (xs.length-n) (aF-n)):=⟨_,rfl⟩;have dF:jj.tmps.size=G.N:=by rw[xJ,wO];exact jH
 have dO:a2.tmps.size=G.N:=by rw[uh,wO];exact dF
 have s3:a3.tmps.size=G.N:=by rw[BX,wO];exact dO
 have fO:a2.eval (.tmp t1)=.slice (some ⟨b,0,none⟩) xs.length aF:=by rw[uh,Dp (Ne.symm ct.1),xJ,Mc (by rw[jH];exact mV.1)]
 have hL:a2.eval (.tmp t2)=.int .i64 n:=by rw[uh,Mc (by rw[dF];exact mV.2.1)]
 have v3:a3.eval (.tmp t3)=.slice (some ⟨b,n*sz,none⟩) (xs.length-n) (aF-n):=by rw[BX,Mc (by rw[dO];exact mV.2.2)]
 have mF:aF≠n:=by omega
 have hl:(execOp a2.eval ey).run G.P w=.ok (.value (.slice (some ⟨b,n*sz,none⟩) (xs.length-n) (aF-n))) w:=by
  have g5:(Instr.sliceBounds true xs.length aF (some (.int .i64 n)) none none).run G.P w=.ok (n,xs.length,aF) w:=by
   have:=run_sliceBound (P:=G.P) (k:=.i64) (n:=(n:Int)) (y:=xs.length) (code:=.sliceB) (w:=w) ⟨by omega,by omega⟩;simp[Instr.sliceBounds,this]
  have ng:∀w,(underlying T).run G.P w=.ok (.slice E) w:=λw=>run_underlying aH.gv w;simp only[execOp,D.1,Instr.sliceAt,Instr.slice,fO,Option.map_some,hL,Sem.run_bind,ng,Result.andThen_ok,g5,aH.size,Sem.run_pure,Option.map_none];rw[if_neg mF];simp only[Addr.add_lit,Option.map_some,Nat.zero_add]
 have QO:z.cells.toList.length=sz:=by rw[←E4,Array.length_toList]
 obtain⟨A,dR⟩:∃A,A=(arr.toList.take (n*sz)++(Builtin.zeroCells z.cells (xs.length-n)).toList++arr.toList.drop (n*sz+(Builtin.zeroCells z.cells (xs.length-n)).toList.length)).toArray:=⟨_,rfl⟩;have IL:(Builtin.zeroCells z.cells (xs.length-n)).toList.length=(xs.length-n)*sz:=by rw[Tg,Wc,QO]
 have r3:n*sz+(xs.length-n)*sz=xs.length*sz:=by rw[←Nat.add_mul];congr 1;omega
 have vK:xs.length*sz≤aF*sz:=Nat.mul_le_mul_right _ au;have oZ:(execOp a3.eval m5).run G.P w=.ok (.value (.tuple #[])) (w.setRow b A):=by
  have:=alm (P:=G.P) w T E m5.type z aH.gv hz b (n*sz) (xs.length-n) (aF-n) arr E aG (by omega) (by rw[IL,bb];omega) (alp i6 _);rw[←dR]at this;simp only[execOp,ak.1];have q:a3.tmps.getD t3 undef=_:=v3;simp[resolve,invoke,builtin,v3,this,Result.andThen]
 have sq:oT G cx env (σ.set d (.slice E sz (xs.take n++List.replicate (xs.length-n) zr) 0 false)) a3 (w.setRow b A):=by
  refine⟨I,β,?_,λt=>?_,s3,by rw[BX,vV,uh,vV,xJ,vV];exact xN⟩
  ·have V:bV (β d)=some b:=by rw[an];rfl
   refine aq.turn (d:=d) (gn.setRow w b _) e3 (λx u=>by rw[Y.hU,if_neg u]) (λx u W e=>aq.dn x d W (by rw[Z];rfl) u b e (je V)) (b7.refl I) (λ_ _ _=>rfl)
    (λo v af=>by rw[ec o (by omega)]at af;cases af) (aq.rV aG) (λ_ _=>rfl) (.inr rfl) (g0.refl β) (.inl V) λaI b3=>?_
   rw[Y.hU,if_pos rfl,Z]at b3;injection b3 with b3
   subst b3;have zq:(xs.take n++List.replicate (xs.length-n) zr).length=xs.length:=by simp;omega
   simp only[aU,zq];have ah0:zr.length=sz:=by rw[←QO];exact(nv _ _ (SI I)).symm
   refine .inr (.inr ⟨b,aF,A,an,au,aK,setRow_heap w b arr A E _ aG,?_,?_,?_,Nat.zero_le _,(λh=>by cases h),ec,e3⟩)
   ·rw[dR];simp only[List.size_toArray,List.length_append,List.length_take,List.length_drop,Array.length_toList,IL,bb];omega
   ·rw[List.flatten_append,Ld xs n bY];have af1:A.toList.take (xs.length*sz)=(arr.toList.take (xs.length*sz)).take (n*sz)++(List.replicate (xs.length-n) z.cells.toList).flatten:=by
     rw[dR,←Tg,List.take_take,Nat.min_eq_left (by omega)];refine List.take_left' ?_;rw[List.length_append,List.length_take,IL,Array.length_toList,bb];omega
    rw[af1];refine(lN _ _ _).2 ⟨_,_,rfl,?_,UF (SI I) _⟩;have fo:xs.flatten=xs.flatten.take (n*sz)++xs.flatten.drop (n*sz):=(List.take_append_drop _ _).symm;rw[fo]at bC;obtain⟨bF,ws,iT,jK,sJ⟩:=(lN _ _ _).1 bC;have akX:bF.length=n*sz:=by
     rw[nv _ _ jK,List.length_take,vS xs bY];exact Nat.min_eq_left (by omega)
    rw[iT,List.take_left' akX];exact jK
   ·intro e he;rcases List.mem_append.1 he with he|he
    ·exact bY e (List.mem_of_mem_take he)
    ·rw[(List.mem_replicate.1 he).2];exact ah0
  ·by_cases bk:t=t1
   ·subst bk;rw[he.1];simp[ar]
   by_cases bZ:t=t2
   ·subst bZ;rw[he.2.1];simp[ar]
   by_cases c1:t=t3
   ·subst c1;rw[he.2.2];simp[ar]
   have:a3.eval (.tmp t)=a.eval (.tmp t):=by rw[BX,Dp (Ne.symm c1),uh,Dp (Ne.symm bZ),xJ,Dp (Ne.symm bk)]
   have bX:=bB t
   change ar I β (env.get t) (a.eval (.tmp t))at bX
   rw[←this]at bX;exact bX
 refine wp_region ?_;show wpOps G.P #[eG,gd,ey,m5] _ [0,1,2,3] a w;refine F0 (o:=eG) (v:=.slice (some ⟨b,0,none⟩) xs.length aF) (w':=w) rfl bJ.2.2 (by simp only[execOp,bJ.1];simp[e0]) ?_;rw[bJ.2.1,←xJ];have v4:jj.eval (.tmp wQ)=.int .i64 n:=by rw[xJ,Dp ct.2.2.2];exact e2
 refine F0 (o:=gd) (v:=.int .i64 n) (w':=w) rfl h1.2.2 (by simp only[execOp,h1.1];simp[v4]) ?_;rw[h1.2.1,←uh];refine F0 (o:=ey) rfl D.2.2 hl ?_;rw[D.2.1,←BX];refine F0 (o:=m5) rfl ak.2.2 oZ ?_;rw[ak.2.1];exact⟨env,_,sq,k⟩
end
section
variable {G:cq}{o:Oper}{ev:Operand→U}{σ:Y}
theorem NH{I:bw}:∀{xs:List U} {vs:List Value} (n:Nat),b9 I xs vs→b9 I (xs.take n) (vs.take n)
 |[],vs,n,h=>by simp only[b9]at h;subst h;simp[b9]
 |x::r,vs,0,h=>by simp[b9]
 |x::r,vs,n+1,h=>by
  simp only[b9]at h;obtain⟨ay,bF,rfl,h1,D⟩:=h;simp only[List.take_succ_cons,b9];exact⟨ay,_,rfl,h1,NH n D⟩
theorem en.afx{T E sz aW d d2:Nat}{x y:Operand}{xs:List (List U)}{k:IntKind}{n:Int}(h:o.op=.slice T x none (some y) none)(u:ev x=.own d)(ah:ev y=.int k n)(Z:σ.get d=some (.slice aW sz xs 0 false))(aH:jh G.P T E sz)
  (aT:0≤n∧n≤xs.length) (hi:G.ids.contains d2=false) (aa:(σ.minus [d]).clean [d2].contains=true) :
  g8 G o ev σ [d,d2] [d2] (λr az=>r=.own d2∧az=(d2,.slice aW sz (xs.take n.toNat) 0 false)::σ.minus [d]):=by
 intro cx I β w aP aq hop;have eP:=hop x (by simp[h,Op.operands]);rw[u]at eP;simp only[ar]at eP;obtain⟨eP,eA⟩:=eP;have qU:=hop y (by simp[h,Op.operands]);rw[ah]at qU;have qU:=iH qU;have jJ:bS G cx I β (σ.minus [d]) w:=aq.sub λx aI u=>by rw[Y.jW]at u;split at u<;>first|cases u|exact u
 have aj:=aq.cB d _ Z;simp only[aU]at aj;have run:∀(a:Option Addr) (c:Nat),aP x=.slice a xs.length c→xs.length≤c→(execOp aP o).run G.P w=.ok (.value (.slice (if c=0 then a else a.map (·.add (0*sz))) n.toNat c)) w:=by
  intro a c h1 D;have aA:(Instr.sliceBounds true xs.length c none (some (.int k n)) none).run G.P w=.ok (0,n.toNat,c) w:=by
   have:=run_sliceBound (P:=G.P) (k:=k) (n:=n) (y:=c) (code:=.sliceAcap) (w:=w) ⟨aT.1,by omega⟩;simp[Instr.sliceBounds,this]
  have e2:∀w,(underlying T).run G.P w=.ok (.slice E) w:=λw=>run_underlying aH.gv w;simp only[execOp,h,Instr.sliceAt,Instr.slice,h1,Sem.run_bind,e2,Result.andThen_ok,Option.map_some,Option.map_none,qU,aA,aH.size,Sem.run_pure,Nat.sub_zero]
 have fin:∀(dI:Value),(execOp aP o).run G.P w=.ok (.value dI) w→iy dI=true→(∀b∈dA dI,b∈dA (β d))→aU cx I (g9 β d2 dI) w d2 (.slice aW sz (xs.take n.toNat) 0 false)→
   kM G.P (λv w'=>∃(bE:U) (az:Y) (aS:bw) (β':Nat→Value),(bE=.own d2∧az=(d2,cn.slice aW sz (xs.take n.toNat) 0 false)::σ.minus [d])∧ar aS β' bE v∧bS G cx aS β' az w'∧b7 I aS∧(∀x,x∉[d2]→β' x=β x)∧(∀x,x∉[d,d2]→az.get x=σ.get x)) ((execOp aP o).run G.P w):=by
  intro dI eX hT eT b3;rw[eX];refine⟨.own d2,_,I,g9 β d2 dI,⟨rfl,rfl⟩,by simp only[ar,g7,hT,and_self],?_,b7.refl I,λx u=>gU β dI (by simpa using u),λx u=>?_⟩
  ·have zj:∀x,[d2].contains x=false→g9 β d2 dI x=β x:=λx u=>gU β dI (by simpa using u);refine{jJ with cB:=λx aI u=>?_,dn:=λx y u ah ct b=>?_,keep:=λx u=>?_}
   ·rw[Y.c4]at u;split at u
    ·rename_i e;subst e;cases u;exact b3
    ·obtain⟨bk,bZ⟩:=Y.iu aa x aI u;exact(jJ.cB x aI u).beta zj bk bZ
   ·have tM:∀x,(Y.get ((d2,cn.slice aW sz (xs.take n.toNat) 0 false)::σ.minus [d]) x).isSome→x≠d2→(σ.get x).isSome∧x≠d:=λx u aT=>by
     rw[Y.c4,if_neg (Ne.symm aT),Y.jW]at u;split at u
     ·cases u
     ·rename_i hm;exact⟨u,by simpa using hm⟩
    by_cases gb:x=d2
    ·subst gb;have pk:y≠x:=λe=>ct e.symm;obtain⟨dF,dO⟩:=tM y ah pk;rw[g7,gU β dI pk];intro aA e2;exact aq.dn y d dF (by rw[Z];rfl) dO b e2 (eT b aA)
    ·obtain⟨dF,dO⟩:=tM x u gb;rw[gU β dI gb];by_cases pk:y=d2
     ·subst pk;rw[g7];intro aA e2;exact aq.dn x d dF (by rw[Z];rfl) dO b aA (eT b e2)
     ·obtain⟨t1,t2⟩:=tM y ah pk;rw[gU β dI pk];exact aq.dn x y dF t1 ct b
   ·have:x≠d2:=λe=>by subst e;rw[←Bool.not_eq_true]at hi;exact hi (by simpa using u)
    rw[gU β dI this];exact aq.keep x u
  ·have u:x≠d∧x≠d2:=by simpa using u
   rw[Y.c4,if_neg (Ne.symm u.2),Y.jW,if_neg (by simpa using u.1)]
 rcases aj with q|⟨q,rfl,_⟩|⟨b,aF,arr,an,au,aK,aG,bb,bC,bY,cK,di,ec,e3⟩
 ·rw[q]at eP;rw[eP]at eA;simp[iy]at eA
 ·have JW:n=0:=by simp at aT;omega
  subst JW;refine fin _ (run none 0 (by rw[eP,q];rfl) (by simp)) rfl (by simp[dA,bV]) ?_;simp only[aU,g7];exact .inr (.inl ⟨by simp,by simp,trivial⟩)
 ·have vI:n.toNat≤xs.length:=by omega
  refine fin _ (run _ aF (by rw[eP,an]) au) rfl ?_ ?_
  ·intro aN hf;rw[an];split at hf
   ·exact hf
   ·simp only[Option.map_some,kJ]at hf;exact hf
  ·simp only[aU,g7];have eF:(xs.take n.toNat).length=n.toNat:=by simp;omega
   refine .inr (.inr ⟨b,aF,arr,?_,by rw[eF];omega,aK,aG,bb,?_,λe he=>bY e (List.mem_of_mem_take he),Nat.zero_le _,λh=>by simp at h,ec,e3⟩)
   ·rw[eF];split<;>simp[kJ]
   ·rw[eF,Ld _ _ bY];have:=NH (n.toNat*sz) bC
    rwa [List.take_take,Nat.min_eq_left (Nat.mul_le_mul_right _ vI)]at this
end
section
variable {P:Program}
def xw(aV d2 sz:Nat)(zs:List (List U))(ids:List Nat)(op:Op)(env:ai)(σ:Y):Option (cA×cf):=match op with
 |.slice T x none (some y) none=>(match env.cz x with
  |some (.own d)=>(match env.cz y with
   |some (.int k n)=>(match σ.get d with
    |some (.slice aW h2 xs 0 false)=>bif Nat.beq T aV&&Nat.beq h2 sz&&!ids.contains d2&&(σ.minus [d]).clean [d2].contains then some (.e [d,d2] [d2] (.own d2) ((d2,.slice aW h2 zs 0 false)::σ.minus [d]),([.aX false xs,.int .i64 n],[]))else none
    |_=>none)
   |_=>none)
  |_=>none)
 |_=>none
theorem abQ{aV E d2 sz:Nat}{xs zs:List (List U)}{n:Int}(aH:jh P aV E sz)(bP:pO sz xs 0 n zs){o:Oper}{N:Nat}{ids:List Nat}{env:ai}{σ:Y}{s:cA}{aI:cf}
  (h:xw aV d2 sz zs ids o.op env σ=some (s,aI)) (he:aI=([.aX false xs,.int .i64 n],[])):e1 ⟨P,N,ids⟩ o env σ s:=by
 cases aj:o.op<;>rw[aj]at h
 case slice T x lo hi nM=>
  cases lo with
  |some m=>simp only[xw]at h;cases h
  |none=>
  cases hi with
  |none=>simp only[xw]at h;cases h
  |some y=>
  cases nM with
  |some m=>simp only[xw]at h;cases h
  |none=>
   simp only[xw]at h;split at h
   ·rename_i d u;split at h
    ·rename_i k kC ah;split at h
     ·rename_i aW h2 kE Z;generalize V:(Nat.beq T aV&&_&&_&&_)=dY at h;cases dY with
      |false=>cases h
      |true=>
       simp only[cond_true]at h;simp only[Bool.and_eq_true,Bool.not_eq_true']at V;obtain⟨⟨⟨dJ,eL⟩,gQ⟩,jd⟩:=V;have:=Nat.eq_of_beq_eq_true dJ;subst this;have:=Nat.eq_of_beq_eq_true eL;subst this;cases h;simp only[Prod.mk.injEq,List.cons.injEq,U.aX.injEq,U.int.injEq,and_true,true_and]at he;obtain⟨rfl,rfl⟩:=he;obtain⟨bU,cG,dP⟩:=bP;refine⟨?_,by simpa using gQ⟩;have g1:=en.afx (G:=⟨P,N,ids⟩) (d2:=d2) aj (ai.b5 u) (ai.b5 ah) Z aH ⟨by omega,cG.2.2⟩ gQ jd;rw[←dP];simpa using g1
     ·cases h
    ·cases h
   ·cases h
 all_goals (simp only[xw]at h;cases h)
def agu{aV E sz:Nat}(d2:Nat){xs zs:List (List U)}{n:Int}(aH:jh P aV E sz)(bP:pO sz xs 0 n zs):Hint P:=
 .gs true ([.aX false xs,.int .i64 n],[]) (λids=>xw aV d2 sz zs ids) λ_ _ _ _ _ _ _ h he=>abQ aH bP h he
theorem Yields.gp{G:cq}{o:Oper}{ev:Operand→U}{σ:Y}{dD R:List Nat}{f:Nat}{l:List U}(h:Yields G o ev σ dD R (.fn f l))(aa:kL l=true):Yields G o ev σ dD R (.gp f l):=λaz cx I β w aP b2 aq hm hop=>by
 have:=h az cx I β w aP b2 aq hm hop;generalize (execOp aP o).run G.P w=r at this
 have key:∀v w',(∃aS β',ar aS β' (.fn f l) v∧bS G cx aS β' az w'∧b7 I aS∧(∀d,d∉dD→β' d=β d))→∃aS β',ar aS β' (.gp f l) v∧bS G cx aS β' az w'∧b7 I aS∧(∀d,d∉dD→β' d=β d):=λv w' ⟨aS,β',h1,D⟩=>by
  simp only[ar]at h1;obtain⟨vs,rfl,ak⟩:=h1;exact⟨aS,β',by simp only[ar,aO];exact⟨vs,rfl,Lk aa ak⟩,D⟩
 cases r with
 |halt x w'=>exact this.elim
 |ok n w'=>cases n with
  |value v=>exact key _ _ this
  |skip=>exact key _ _ this
  |enter f args=>exact Calls.mono this λe sL ⟨v,h1,D⟩=>⟨v,h1,key _ _ D⟩
  |_=>exact this.elim
def Jh(op:Op)(env:ai):Option (cA×cf):=match op with
 |.makeFunc (.func f) first aF=>match first.toList with
  |[]=>(match env.nI aF.toList with
   |some l=>bif kL l then some (.y [] (.gp f l),([],[]))else none
   |_=>none)
  |_=>none
 |_=>none
theorem abR{o:Oper}{N:Nat}{ids:List Nat}{env:ai}{σ:Y}{s:cA}{aI:cf}(h:Jh o.op env=some (s,aI)):e1 ⟨P,N,ids⟩ o env σ s:=by
 unfold Jh at h;split at h
 ·rename_i f first aF aj;split at h
  ·rename_i be;split at h
   ·rename_i l aJ;cases aa:kL l with
    |false=>rw[aa]at h;cases h
    |true=>
     rw[aa]at h;cases h
     have aA:first=#[]:=by simpa using congrArg List.toArray be
     subst aA;exact Yields.gp (bW.makeFunc aj aJ) aa
   ·cases h
  ·cases h
 ·cases h
def R2:Hint P:=.gs false ([],[]) (λ_ op env _=>Jh op env) λ_ _ _ _ _ _ _ h _=>abR h
end
end
section
section
variable {G:cq}{σ:Y}{o:Oper}{ev:Operand→U}
theorem OD{cx:eO}{I:bw}{β:Nat→Value}{w:World}(aq:bS G cx I β σ w){d T t:Nat}{xs:List (List U)}(Z:σ.get d=some (.gZ T xs t))(aT:β d≠.nilFunc):
  ∃b aF arr,β d=.slice (some ⟨b,0,none⟩) (xs.length+1) aF∧xs.length+1≤aF∧aF≤maxLen∧w.heap[b]?=some (.cells arr T (0,0))∧arr.size=aF∧
    b9 I xs.flatten (arr.toList.take xs.length)∧(∀e∈xs,e.length=1)∧arr[xs.length]?=some (β t)∧β t≠.nilFunc∧(∀o:Nat,I b o=none)∧Place cx b:=by
 have aj:=aq.cB d _ Z;simp only[aU,aT,false_or]at aj;exact aj
theorem bG.abS{T E d aV t:Nat}{xs:List (List U)}{x y:Operand}{k:IntKind}{i:Int}(h:o.op=.indexAddr T x y)(u:ev x=.own d)(ah:ev y=.int k i)(Z:σ.get d=some (.gZ aV xs t))(aH:jh G.P T E 1)
  (hi:0≤i∧i<(xs.length:Int)+1):Yields G o ev σ [] [d] (.ptr d i.toNat):=
 .pure λaz cx I β w aP b2 aq hop=>by
  have h1:=hop x (by simp[h,Op.operands]);rw[u]at h1
  have D:=hop y (by simp[h,Op.operands]);rw[ah]at D;have D:=iH D
  simp only[ar]at h1;obtain⟨h1,W⟩:=h1;have h3:β d≠.nilFunc:=λe=>by rw[h1,e]at W;simp[iy]at W
  obtain⟨b,aF,arr,an,au,aK,aG,_⟩:=OD aq (by rw[b2 d (by simp)];exact Z) h3;refine⟨.pointer (some ⟨b,i.toNat,none⟩),?_,by simp only[ar];exact⟨b,by rw[an];rfl,rfl⟩⟩;have aA:∀w,(underlying T).run G.P w=.ok (.slice E) w:=λw=>by simp[underlying,program,Sem.run,aH.gv]
  rw[an]at h1;have r1:0≤i∧i<(xs.length:Int)+1:=hi;have B2:¬((xs.length:Int)+1≤i):=by omega
  simp[B2,execOp,h,h1,D,Instr.indexAt,asIntOf,aA,r1,aH.size,kJ]
theorem Ni{cx:eO}{I:bw}{β:Nat→Value}{w:World}(aq:bS G cx I β σ w){d T t p:Nat}{xs:List (List U)}(Z:σ.get d=some (.gZ T xs t)){v:Value}(h1:ar I β (.ptr d p) v):
  ∃b arr,v=.pointer (some ⟨b,p,none⟩)∧w.heap[b]?=some (.cells arr T (0,0))∧b9 I xs.flatten (arr.toList.take xs.length)∧(∀e∈xs,e.length=1)∧arr[xs.length]?=some (β t)∧β t≠.nilFunc∧xs.length+1≤arr.size:=by
 simp only[ar]at h1;obtain⟨b,h1,D⟩:=h1;have h3:β d≠.nilFunc:=λe=>by rw[e]at h1;cases h1
 obtain⟨aN,aF,arr,an,au,aK,aG,bb,bC,bY,cK,di,ec,e3⟩:=OD aq Z h3;have pW:aN=b:=by rw[an]at h1;simpa [bV]using h1
 subst pW;exact⟨aN,arr,D,aG,bC,bY,cK,di,by omega⟩
def cn.D0:cn→Bool
 |.map ..=>true
 |.gj ..=>true
 |_=>false
theorem bG.abT{T d p aV t:Nat}{xs:List (List U)}{x:Operand}{jb:cn}(h:o.op=.load T x)(u:ev x=.ptr d p)(Z:σ.get d=some (.gZ aV xs t))(aB:p=xs.length)(bB:σ.get t=some jb)(hm:jb.D0=true)(aH:dM G.P T 1 false):
  Yields G o ev σ [] [d,t] (.dm t):=
 .pure λaz cx I β w aP b2 aq hop=>by
  have h1:=hop x (by simp[h,Op.operands]);rw[u]at h1
  obtain⟨b,arr,D,aG,bC,bY,cK,di,ec⟩:=Ni aq (by rw[b2 d (by simp)];exact Z) h1
  have mg:∀j,j<1→∃v,[β t][j]?=some v∧w.cell? ⟨b,p+j,none⟩=some v:=λj aM=>by
   have:j=0:=by omega
   subst this;exact⟨β t,rfl,by subst aB;simp[World.cell?,aG,cK]⟩
  have aJ:=vq aH (vs:=[β t]) mg (λ_=>by omega);refine⟨β t,by simp[execOp,h,D,Instr.loadAt,Instr.sureAddr,aJ],?_⟩;simp only[ar,true_and];have aj:=aq.cB t jb (by rw[b2 t (by simp)];exact bB);cases jb<;>simp only[cn.D0,reduceCtorEq]at hm
  ·simp only[aU,di,false_or]at aj;obtain⟨r,_,_,e,_⟩:=aj;rw[e];rfl
  ·simp only[aU,di,false_or]at aj;obtain⟨r,e,_⟩:=aj;rw[e];rfl
theorem Nj:∀{xs:List (List U)} {p:Nat} {a:U},(∀e∈xs,e.length=1)→xs[p]?=some [a]→xs.flatten[p]?=some a
 |[],_,_,_,h=>by simp at h
 |e::r,p,a,aJ,h=>by
  obtain⟨c,rfl⟩:∃c,e=[c]:=List.length_eq_one_iff.1 (aJ e (by simp));cases p with
  |zero=>simp at h;subst h;rfl
  |succ p=>simp only[List.flatten_cons,List.singleton_append,List.getElem?_cons_succ]at h ⊢;exact Nj (λe he=>aJ e (by simp[he])) h
theorem bG.abf{T d p aV t:Nat}{xs:List (List U)}{x:Operand}{a:U}(h:o.op=.load T x)(u:ev x=.ptr d p)(Z:σ.get d=some (.gZ aV xs t))(aB:xs[p]?=some [a])(aH:dM G.P T 1 false):
  Yields G o ev σ [] [d] a:=
 .pure λaz cx I β w aP b2 aq hop=>by
  have h1:=hop x (by simp[h,Op.operands]);rw[u]at h1
  obtain⟨b,arr,D,aG,bC,bY,cK,di,ec⟩:=Ni aq (by rw[b2 d (by simp)];exact Z) h1;obtain⟨v,cF,cW⟩:=Gr (β:=β) (b9.rep β _ _ bC) (Nj bY aB);have ml:p<xs.length:=(List.getElem?_eq_some_iff.1 aB).1;have ht:arr[p]?=some v:=by
   rw[List.getElem?_take,if_pos ml]at cF;simpa using cF
  have mg:∀j,j<1→∃dI,[v][j]?=some dI∧w.cell? ⟨b,p+j,none⟩=some dI:=λj aM=>by
   have:j=0:=by omega
   subst this;exact⟨v,rfl,by simp[World.cell?,aG,ht]⟩
  have aJ:=vq aH (vs:=[v]) mg (λ_=>by omega);exact⟨v,by simp[execOp,h,D,Instr.loadAt,Instr.sureAddr,aJ],cW⟩
theorem en.YE{s x:Operand}{T E bytes d d2 lq t aW yT:Nat}{cU:Bool}{xs:List (List U)}(h:o.op=.call ⟨.builtin .append,#[s,x],#[T,T]⟩)(W:ev s=.own d)(Z:σ.get d=some (.slice aW 1 xs 0 cU))(u:ev x=.fm (.y2 1) lq)(gN:σ.get lq=some (.cells yT [.dm t]))(aH:jE G.P T E 1 bytes)(hv:aW=E)
  (V:(xs.length+1)*bytes≤140737488355328) (oz:xs.length+1≤maxLen) (hi:G.ids.contains d2=false)
  (aa:(σ.minus [d]).clean [d2].contains=true) (nX:lq≠d) (anZ:t≠d) :
  g8 G o ev σ [d,d2] [d2] (λr az=>r=.own d2∧az=(d2,.gZ aW xs t)::σ.minus [d]):=by
 subst hv;intro cx I β w aP aq hop;have eP:=hop s (by simp[h,Op.operands,Call.operands]);rw[W]at eP;simp only[ar]at eP;obtain⟨eP,eA⟩:=eP;have cI:=hop x (by simp[h,Op.operands,Call.operands]);rw[u]at cI;simp only[ar]at cI;obtain⟨xh,kQ,cI⟩:=cI;have cI:aP x=.slice (some ⟨xh,0,none⟩) 1 1:=cI;obtain⟨i,z,hh,i6,iR,nC,ul⟩:=aH.info;have agA:(σ.minus [d]).get lq=some (.cells yT [.dm t]):=by rw[Y.jW,if_neg (by simpa using nX)];exact gN
 have QF:t≠d2:=λe=>by
  have:=(Y.iu aa lq _ agA).2;simp[nw,nE,U.refs,e]at this
 have o7:w.cell? ⟨xh,0,none⟩=some (β t)∧k3 (β t)=true:=by
  have R3:β lq≠.nilFunc:=λe=>by rw[e]at kQ;cases kQ
  have aj:=aq.cB lq _ gN;simp only[aU,R3,false_or]at aj;obtain⟨b,arr,an,au,aK,_⟩:=aj;have:b=xh:=by rw[an]at kQ;simpa [bV]using kQ
  subst this;simp only[bO,ar]at aK;obtain⟨ay,bF,aA,⟨e2,b6⟩,cQ⟩:=aK;subst cQ;have:arr[0]?=some ay:=by
   have:arr.toList[0]?=some ay:=by rw[aA];rfl
   simpa using this
  rw[e2]at this b6;exact⟨by simp[World.cell?,au,this],b6⟩
 have r8:β t≠.nilFunc:=λe=>by rw[e]at o7;simp[k3]at o7
 have pa:∀v∈[β t],v.oneCell'=true:=λv af=>by
  rw[List.mem_singleton.1 af];have:=o7.2;cases JL:β t<;>rw[JL]at this<;>simp[k3]at this<;>rfl
 have kA:xs.length+1≤9223372036854775807:=by simp only[maxLen]at oz;omega
 have jJ:bS G cx I β (σ.minus [d]) w:=aq.sub λx aI u=>by rw[Y.jW]at u;split at u<;>first|cases u|exact u
 have lE:=jJ.oS (dD:=[d2]) (σ2:=(d2,.gZ aW xs t)::σ.minus [d]) (env:=[]) ⟨λx u=>by rw[Y.c4,if_neg (λe=>u (by simp[e]))],λx u=>by simp at u;subst u;simpa using hi,rfl,aa,λx u cT n h=>by simp at u;subst u;rw[Y.c4,if_pos rfl]at h;cases h⟩;have gy:∀x,x≠d2→gF β [d2] x=β x:=λx u=>by simp[gF,u]
 have fin:∀(dI:Value) (w':World) (b:Nat),(execOp aP o).run G.P w=.ok (.value dI) w'→iy dI=true→gn w w' b→Place cx b→(∀x,((σ.minus [d]).get x).isSome→b∉dA (β x))→
   (∀(o:Nat) v,I b o=some v→w'.cell? ⟨b,o,none⟩=some v)→I b none=none→(bV dI=some b∨dA dI=[])→aU cx I (g9 β d2 dI) w' d2 (.gZ aW xs t)→
   kM G.P (λv w'=>∃(bE:U) (az:Y) (aS:bw) (β':Nat→Value),(bE=.own d2∧az=(d2,cn.gZ aW xs t)::σ.minus [d])∧ar aS β' bE v∧bS G cx aS β' az w'∧b7 I aS∧(∀x,x∉[d2]→β' x=β x)∧(∀x,x∉[d,d2]→az.get x=σ.get x)) ((execOp aP o).run G.P w):=by
  intro dI w' b eX hT hk aB nA yt xT eT b3;rw[eX];refine⟨.own d2,_,I,g9 β d2 dI,⟨rfl,rfl⟩,by simp only[ar,g7,hT,and_self],?_,b7.refl I,λx u=>gU β dI (by simpa using u),λx u=>?_⟩
  ·refine lE.turn (d:=d2) hk aB (λ_ _=>rfl) (λx u kA e=>?_) (b7.refl I) (λ_ _ _=>rfl) yt xT (λx u=>by rw[gU β dI u,gy x u]) (.inl (by simpa using hi)) (λx=>?_) (by rw[g7];exact eT) (λaI mJ=>?_)
   ·rw[Y.c4,if_neg (Ne.symm u)]at kA;rw[gy x u]at e;exact nA x kA e
   ·by_cases u:x=d2
    ·left;simp[gF,u]
    ·right;rw[gU β dI u,gy x u]
   ·rw[Y.c4,if_pos rfl]at mJ;injection mJ with mJ
    subst mJ;exact b3
  ·have u:x≠d∧x≠d2:=by simpa using u
   rw[Y.c4,if_neg (Ne.symm u.2),Y.jW,if_neg (by simpa using u.1)]
 have other:∀b,bV (β d)=some b→∀x,((σ.minus [d]).get x).isSome→b∉dA (β x):=λb eT x u e=>by
  rw[Y.jW]at u;split at u
  ·cases u
  ·rename_i mZ;exact aq.dn x d u (by rw[Z];rfl) (by simpa using mZ) b e (je eT)
 have rS:∀x,((σ.minus [d]).get x).isSome→w.heap.size∉dA (β x):=λx u e=>by
  obtain⟨aI,u⟩:=Option.isSome_iff_exists.1 u;exact absurd (jJ.qa u e) (by omega)
 have vt:I w.heap.size none=none:=aq.ic (Nat.le_refl _) none;have wE:∀(w':World) (o:Nat) v,I w.heap.size o=some v→w'.cell? ⟨w.heap.size,o,none⟩=some v:=λw' o v af=>by rw[aq.ic (Nat.le_refl _)]at af;cases af
 have q0:∀lf,lf<xs.length+1→xs.length+1≤grownCap w (xs.length+1) lf aW∧grownCap w (xs.length+1) lf aW≤maxLen:=λlf _=>⟨grownCap_ge _ _ _ _,grownCap_le_maxLen _ _ _ _ oz⟩
 have kv:∀j ay,[β t][j]?=some ay→w.cell? ((⟨xh,0,none⟩:Addr).add j)=some ay:=λj ay hu=>by
  cases j with
  |zero=>simp at hu;subst hu;rw[kJ];exact o7.1
  |succ j=>simp at hu
 have ti:∀(hx:List Value) (aF:Nat),b9 I xs.flatten hx→hx.length=xs.length→(∀e∈xs,e.length=1)→xs.length+1≤aF→aF≤maxLen→
   aU cx I (g9 β d2 (.slice (some ⟨w.heap.size,0,none⟩) (xs.length+1) aF)) (w.drew.alloc (.cells (hx.toArray++[β t].toArray++Builtin.zeroCells z.cells (aF-(xs.length+1))) aW)) d2 (.gZ aW xs t):=by
  intro hx aF mG jG Cb s2 oB;simp only[aU,g7,gU β _ QF];refine .inr ⟨w.heap.size,aF,_,rfl,s2,oB,heap_alloc_new w.drew _,?_,?_,Cb,?_,r8,λo=>aq.ic (Nat.le_refl _) o,.inl aq.size⟩
  ·simp only[Array.size_append,List.size_toArray,size_zeroCells,ul,jG,List.length_cons,List.length_nil,Nat.mul_one];omega
  ·have:(hx.toArray++[β t].toArray++Builtin.zeroCells z.cells (aF-(xs.length+1))).toList.take xs.length=hx:=by
    simp only[Array.toList_append,List.append_assoc];rw[←jG];exact List.take_left
   rw[this];exact mG
  ·have:(hx.toArray++[β t].toArray++Builtin.zeroCells z.cells (aF-(xs.length+1))).toList[xs.length]?=some (β t):=by
    simp only[Array.toList_append,List.append_assoc];rw[List.getElem?_append_right (by simp[jG])];simp[jG]
   rw[←Array.getElem?_toList];exact this
 have q1:∀aI,gn w (w.drew.alloc aI) w.heap.size:=λaI=>(gn.alloc w.drew aI).drew;have aj:=aq.cB d _ Z;simp only[aU,Nat.mul_one]at aj;rcases aj with q|⟨q,rfl,-⟩|⟨b,aF,arr,an,au,aK,aG,bb,bC,bY,cK,di,ec,e3⟩
 ·rw[q]at eP;rw[eP]at eA;simp[iy]at eA
 ·have ax:=run_append_nil (P:=G.P) w T o.type aW i z aH.gv hh i6 ⟨xh,0,none⟩ 1 1 [β t] (by rw[iR];rfl) kv (by omega) (by omega) (by simp at V;rw[nC];omega);obtain⟨cF,cW⟩:=q0 0 (by simp);simp only[List.length_nil,Nat.zero_add]at cF cW;refine fin _ _ w.heap.size (mQ h (by rw[eP,cI,q];exact ax)) rfl (q1 _) (.inl aq.size) rS (wE _) vt (.inl rfl) ?_;have:=ti [] (grownCap w 1 0 aW) rfl (by simp) (by simp) (by simpa using cF) cW;simpa using this
 ·have eT:bV (β d)=some b:=by rw[an];rfl
  have bQ:=gV aG;have pU:arr.toList.length=aF:=by simpa using bb
  have n4:xs.length≤arr.toList.length:=by omega
  have B9:∀o:Nat,I b o=none:=λo=>ec o (by omega);by_cases pe:xs.length+1≤aF
  ·have ax:=run_append_room (P:=G.P) w T o.type aW i aH.gv hh b xs.length aF arr aG ⟨xh,0,none⟩ 1 1 [β t] (by rw[iR];rfl) kv pa pe (by rw[iR,Nat.mul_one,bb];exact pe);rw[iR,Nat.mul_one]at ax;refine fin _ _ b (mQ h (by rw[eP,cI,an];exact ax)) rfl (gn.setRow w b _) e3 (other b eT) (λo v af=>by rw[B9 o]at af;cases af) (aq.rV aG) (.inl rfl) ?_;have cb:=setRow_heap w b arr (arr.toList.take xs.length++[β t]++arr.toList.drop (xs.length+[β t].length)).toArray aW (0,0) aG;simp only[aU,g7,gU β _ QF];refine .inr ⟨b,aF,_,rfl,pe,aK,cb,?_,?_,bY,?_,r8,B9,e3⟩
   ·simp;omega
   ·have:(arr.toList.take xs.length++[β t]++arr.toList.drop (xs.length+[β t].length)).take xs.length=arr.toList.take xs.length:=by
     rw[List.append_assoc,List.take_append_of_le_length (by rw[List.length_take];omega),List.take_take,Nat.min_self]
    simp only at this ⊢;rw[this];exact bC
   ·have:(arr.toList.take xs.length++[β t]++arr.toList.drop (xs.length+[β t].length))[xs.length]?=some (β t):=by
     rw[List.append_assoc,List.getElem?_append_right (by rw[List.length_take];omega)];rw[List.length_take,Nat.min_eq_left n4,Nat.sub_self];rfl
    rw[←Array.getElem?_toList];exact this
  ·have r5:(arr.toList.take xs.length).length=xs.length:=by rw[List.length_take,Nat.min_eq_left n4]
   have vM:∀j v,(arr.toList.take xs.length)[j]?=some v→w.cell? ((⟨b,0,none⟩:Addr).add j)=some v:=λj v af=>by
    rw[kJ];rw[List.getElem?_take]at af;split at af
    ·simp only[World.cell?,aG,Nat.zero_add];simpa using af
    ·cases af
   have ax:=run_append_grow (P:=G.P) w T o.type aW i z aH.gv hh i6 ⟨b,0,none⟩ xs.length aF _ (by rw[iR,Nat.mul_one];exact r5) vM ⟨xh,0,none⟩ 1 1 [β t] (by rw[iR];rfl) kv (by omega) (by omega) (growslice_fits (by omega) (by rw[nC];exact V));obtain⟨cF,cW⟩:=q0 aF (by omega);exact fin _ _ w.heap.size (mQ h (by rw[eP,cI,an];exact ax)) rfl (q1 _) (.inl aq.size) rS (wE _) vt (.inl rfl) (ti _ _ bC r5 bY cF cW)
end
end
section
theorem b8.QG{G:cq}{env:ai}{σ:Y}(d t:Nat){T K E:Nat}{xs:List (List U)}{bx:List (U×U)}(Z:σ.get d=some (.gZ T xs t))(bB:σ.get t=some (.k4 K E bx)):
  b8 G env σ env (σ.set d (.slice T 1 (xs++[[.de bx]]) 0 false)):=λcx I β a w h dc=>by
 refine⟨I,β,Gu Z h ?_,dc⟩;have aj:=h.cB d _ Z;have hm:=h.cB t _ bB;simp only[aU]at aj hm ⊢;rcases aj with q|⟨b,aF,arr,an,au,aK,aG,bb,bC,bY,cK,di,ec,e3⟩
 ·exact .inl q
 ·obtain⟨r,es,clock,bU,cG,dP,gT,kk⟩:=hm.resolve_left di;refine .inr (.inr ⟨b,aF,arr,by rw[an];simp,by simpa using au,aK,aG,by omega,?_,λe he=>?_,by simp,by simp,λo _=>ec o,e3⟩)
  ·have bQ:xs.length<arr.toList.length:=by simpa using (Array.getElem?_eq_some_iff.1 cK).1
   have aA:arr.toList[xs.length]?=some (β t):=by simpa using cK
   have e2:arr.toList.take ((xs++[[U.de bx]]).length*1)=arr.toList.take xs.length++[β t]:=by
    rw[List.length_append,List.length_singleton,Nat.mul_one,List.take_add_one,aA];rfl
   rw[e2,List.flatten_append];refine(lN _ _ _).2 ⟨_,_,rfl,bC,?_⟩;simp only[List.flatten_cons,List.flatten_nil,List.append_nil,b9,aO];exact⟨β t,[],rfl,⟨r,es,clock,bU,cG,dP,kk⟩,rfl⟩
  ·rcases List.mem_append.1 he with he|he
   ·exact bY e he
   ·rw[List.mem_singleton.1 he];rfl
def l2(k:IntKind)(n:Int)(es:Array MapEntry)(clock:Nat):Nat:=match Instr.findNow (.int k) (.int k n) es.toList 0 with
 |some (some (j,_))=>((es[j]?).map (·.born)).getD 0
 |_=>clock
def jF(k:IntKind)(n:Int)(z:Value)(es:Array MapEntry)(clock:Nat):Array MapEntry:=match Instr.findNow (.int k) (.int k n) es.toList 0 with
 |some (some _)=>es
 |_=>es.push ⟨.int k n,z,clock⟩
def qs(k:IntKind)(n:Int)(es:Array MapEntry)(clock:Nat):Nat:=match Instr.findNow (.int k) (.int k n) es.toList 0 with
 |some (some _)=>clock
 |_=>clock+1
theorem Th(kd:TypeDesc)(key:Value)(B:List MapEntry):∀(A:List MapEntry) (i:Nat),Instr.findNow kd key A i=some none→Instr.findNow kd key (A++B) i=Instr.findNow kd key B (i+A.length)
 |[],i,_=>rfl
 |e::A,i,h=>by
  simp only[Instr.findNow,List.cons_append]at h ⊢;cases W:Instr.sameNow kd key e.key with
  |none=>rw[W]at h;cases h
  |some b=>
   cases b with
   |true=>rw[W]at h;cases h
   |false=>
    rw[W]at h;simp only at h ⊢;rw[Th kd key B A (i+1) h,List.length_cons];congr 1;omega
theorem VA{α:Type}{l:Array α}{j:Nat}{f:α→α}(h:∀e,l[j]?=some e→f e=e):l.modify j f=l:=by
 apply Array.ext_getElem?;intro i;rw[Array.getElem?_modify];split
 ·rename_i aM;subst aM;cases he:l[j]? with
  |none=>rfl
  |some e=>simp[h e he]
 ·rfl
theorem CT{α:Type}(n:Int)(v:α):∀l:List (Int×α),bT (c6 l n v) n=some v
 |[]=>by simp[c6,bT]
 |p::r=>by
  unfold c6;split
  ·simp[bT]
  ·rename_i aB;have:=CT n v r;unfold bT at this ⊢;rw[List.find?_cons_of_neg (by simpa using aB)];exact this
theorem UI{α:Type}{n:Int}:∀{l:List (Int×α)} {v:α},bT l n=some v→c6 l n v=l
 |[],_,h=>by simp[bT]at h
 |p::r,v,h=>by
  unfold c6;unfold bT at h;split
  ·rename_i aB;rw[List.find?_cons_of_pos (by simpa using aB)]at h;simp at h;obtain⟨bU,cG⟩:=p;simp only at aB h;rw[aB,h]
  ·rename_i aB;rw[List.find?_cons_of_neg (by simpa using aB)]at h;rw[UI (l:=r) h]
theorem LG{α:Type}(n:Int)(ay v:α):∀l:List (Int×α),c6 (c6 l n ay) n v=c6 l n v
 |[]=>by simp[c6]
 |p::r=>by
  by_cases aB:p.1=n
  ·simp[c6,aB]
  ·simp[c6,aB,LG n ay v r]
section
variable {G:cq}{σ:Y}{o:Oper}{ev:Operand→U}
theorem en.Wd{α:Type}{T K E d clock:Nat}{k:IntKind}{x y:Operand}{n:Int}{es:Array MapEntry}{z:Value}(l:List (Int×α))(enc:α→U)(pN:α)(h:o.op=.mapEntry T x y)(u:ev x=.dm d)(ah:ev y=.int k n)
  (Z:σ.get d=some (.gj es clock K E (dy k enc l))) (aH:k7 G.P T K E k) (hz:∀w,(zeroValue E).run G.P w=.ok z w) (Cl:∀I,aO I (enc pN) z) :
  g8 G o ev σ [d] [] (λr az=>r=.cD [.gq,.int .i64 (l2 k n es clock:Int)]∧az=σ.set d (.gj (jF k n z es clock) (qs k n es clock) K E (dy k enc (c6 l n ((bT l n).getD pN))))):=by
 intro cx I β w aP aq hop;have h1:=hop x (by simp[h,Op.operands]);rw[u]at h1
 have D:=hop y (by simp[h,Op.operands]);rw[ah]at D;have D:=iH D
 simp only[ar]at h1;obtain⟨h1,rW⟩:=h1;have h3:β d≠.nilFunc:=λe=>by rw[h1,e]at rW;simp[k3]at rW
 have aj:=aq.cB d _ Z;simp only[aU,h3,false_or]at aj;obtain⟨r,an,au,aK,aG,bb,bC⟩:=aj;have aA:∀w,(underlying T).run G.P w=.ok (.map K E) w:=λw=>by simp[underlying,program,Sem.run,aH.gv]
 have e2:∀w,(underlying K).run G.P w=.ok (.int k) w:=λw=>by simp[underlying,program,Sem.run,aH.key]
 have b6:=nS (P:=G.P) au;have cQ:=CD (P:=G.P) aH.key false n w
 have gy:∀aI:Obj,(setObj r aI).run G.P w=.ok () {w with heap:=w.heap.setIfInBounds r aI}:=λaI=>by
  have:=gV au;simp[setObj,Sem.run,au]
 have hH:aP x=.map (some r):=by rw[h1,an]
 have sq:∃v,(execOp aP o).run G.P w=.ok (.value (.tuple #[v,.int .i64 (l2 k n es clock:Int)])) {w with heap:=w.heap.setIfInBounds r (.map (jF k n z es clock) (qs k n es clock))}∧e9 I (dy k enc (c6 l n ((bT l n).getD pN))) (jF k n z es clock).toList∧iK (jF k n z es clock) (qs k n es clock):=by
  cases bl:bT l n with
  |none=>
   obtain⟨bU,cG⟩:=CI n l es.toList 0 aK bl;have fo:(Instr.findKey K (.int k n) es.toList).run G.P w=.ok none w:=by simp[Instr.findKey,e2,bU]
   have dJ:l2 k n es clock=clock:=by unfold l2;rw[bU]
   have eL:jF k n z es clock=es.push ⟨.int k n,z,clock⟩:=by unfold jF;rw[bU]
   have gQ:qs k n es clock=clock+1:=by unfold qs;rw[bU]
   rw[dJ,eL,gQ];refine⟨z,by simp[execOp,h,Instr.mapEntry,hH,D,aA,b6,cQ,fo,gy,hz,goInt],?_,bC.push _ _⟩;simpa using cG pN ⟨.int k n,z,clock⟩ (Cl I) rfl
  |some a=>
   obtain⟨j,ay,bU,cG,cw,dP,gT,kk⟩:=CH n l es.toList 0 a aK bl;have fo:(Instr.findKey K (.int k n) es.toList).run G.P w=.ok (some (0+j,ay)) w:=by simp[Instr.findKey,e2,bU]
   have jX:es[j]?=some cw:=by simpa using dP
   have kK:(Instr.keyThatStays (.int k n) (.int k n)).run G.P w=.ok (.int k n) w:=by simp[Instr.keyThatStays,Instr.sameBits]
   have dJ:l2 k n es clock=cw.born:=by unfold l2;rw[bU];simp[jX]
   have eL:jF k n z es clock=es:=by unfold jF;rw[bU]
   have gQ:qs k n es clock=clock:=by unfold qs;rw[bU]
   have jd:es.modify j (λe=>{e with key:=.int k n})=es:=VA λe he=>by
    rw[jX]at he;cases he;rw[←gT]
   rw[dJ,eL,gQ];refine⟨ay,by simp[execOp,h,Instr.mapEntry,hH,D,aA,b6,cQ,fo,gy,jX,gT,kK,goInt,jd],?_,bC⟩;rw[show(some a:Option α).getD pN=a from rfl,UI bl];exact aK
 obtain⟨v,eX,hv,fv⟩:=sq;rw[eX];refine⟨.cD [.gq,.int .i64 (l2 k n es clock:Int)],_,I,β,⟨rfl,rfl⟩,by simp[ar,bO,aO],?_,b7.refl I,λ_ _=>rfl,λx u=>by rw[Y.hU,if_neg (by simpa using u)]⟩;have eT:bV (β d)=some r:=by rw[an];rfl
 refine aq.turn (d:=d) (gn.setObj w r _) bb (λx u=>by rw[Y.hU,if_neg u]) (λx u W e=>aq.dn x d W (by rw[Z];rfl) u r e (je eT)) (b7.refl I) (λ_ _ _=>rfl)
  (λo v af=>by rw[aG o]at af;cases af) (aG none) (λ_ _=>rfl) (.inr rfl) (g0.refl β) (.inl eT) λaI b3=>?_
 rw[Y.hU,if_pos rfl,Z]at b3;injection b3 with b3
 subst b3;simp only[aU];exact .inr ⟨r,an,by have:=gV au;simp[Array.getElem?_setIfInBounds,this],hv,aG,bb,fv⟩
theorem aef{I:bw}{α:Type}{k:IntKind}{n:Int}{es:Array MapEntry}{clock:Nat}{z:Value}{l:List (Int×α)}{enc:α→U}{a:α}(hv:e9 I (dy k enc l) (jF k n z es clock).toList)(fv:iK (jF k n z es clock) (qs k n es clock))(bl:bT l n=some a):
  ∃j e,(jF k n z es clock).findIdx? (λe=>(e.born:Int)==(l2 k n es clock:Int))=some j∧(jF k n z es clock)[j]?=some e∧e.key=.int k n∧
   ∀(b:α) (ay:Value),aO I (enc b) ay→e9 I (dy k enc (c6 l n b)) ((jF k n z es clock).modify j λe=>{e with val:=ay}).toList:=by
 obtain⟨j,ay,bU,cG,cw,dP,gT,kk⟩:=CH n l _ 0 a hv bl;have V:cw.born=l2 k n es clock:=by
  cases be:Instr.findNow (.int k) (.int k n) es.toList 0 with
  |none=>
   have dJ:l2 k n es clock=clock:=by unfold l2;rw[be]
   have eL:jF k n z es clock=es.push ⟨.int k n,z,clock⟩:=by unfold jF;rw[be]
   rw[eL]at bU;exfalso;rw[Array.toList_push]at bU;have:∀(A B:List MapEntry) (i:Nat),Instr.findNow (.int k) (.int k n) A i=none→Instr.findNow (.int k) (.int k n) (A++B) i=none:=by
    intro A B;induction A with
    |nil=>intro i h;cases h
    |cons c A bD=>
     intro i h;simp only[Instr.findNow,List.cons_append]at h ⊢;cases W:Instr.sameNow (.int k) (.int k n) c.key with
     |none=>rfl
     |some b=>
      cases b with
      |true=>rw[W]at h;cases h
      |false=>rw[W]at h;exact bD (i+1) h
   rw[this _ _ 0 be]at bU;cases bU
  |some q=>
   cases q with
   |none=>
    have dJ:l2 k n es clock=clock:=by unfold l2;rw[be]
    have eL:jF k n z es clock=es.push ⟨.int k n,z,clock⟩:=by unfold jF;rw[be]
    rw[eL,Array.toList_push,Th _ _ _ _ _ be]at bU;have aM:j=es.size:=by
     simp only[Instr.findNow]at bU;cases W:Instr.sameNow (.int k) (.int k n) (Value.int k n)with
     |none=>rw[W]at bU;cases bU
     |some b=>
      cases b with
      |true=>rw[W]at bU;simp at bU;omega
      |false=>rw[W]at bU;cases bU
    rw[eL,aM]at dP;simp at dP;rw[←dP,dJ]
   |some q=>
    obtain⟨hn,v0⟩:=q;have eL:jF k n z es clock=es:=by unfold jF;rw[be]
    rw[eL,be]at bU;have aM:hn=j:=by simp at bU;omega
    rw[eL]at dP;have dJ:l2 k n es clock=((es[hn]?).map (·.born)).getD 0:=by unfold l2;rw[be]
    have:es[j]?=some cw:=by simpa using dP
    rw[dJ,aM,this];rfl
 have jX:(jF k n z es clock)[j]?=some cw:=by simpa using dP
 refine⟨j,cw,?_,jX,gT,λb ay hu=>?_⟩
 ·rw[Array.findIdx?_eq_some_iff_getElem];obtain⟨bQ,he⟩:=Array.getElem?_eq_some_iff.1 jX;refine⟨bQ,by rw[he];simp[V],λi hi=>?_⟩;intro aa;have aa:(jF k n z es clock)[i].born=l2 k n es clock:=by
   have:((jF k n z es clock)[i].born:Int)=(l2 k n es clock:Int):=by simpa using aa
   omega
  have h1:=fv.1;have:=List.pairwise_iff_getElem.1 h1 i j (by simp;omega) (by simpa using bQ) hi;apply this;simp only[List.getElem_map,Array.getElem_toList];rw[aa,he,V]
 ·have:=kk b ay (λe=>{e with key:=.int k n,val:=ay}) hu (λe=>⟨rfl,rfl⟩)
  have kK:((jF k n z es clock).modify j λe=>{e with val:=ay}).toList=(jF k n z es clock).toList.modify j λe=>{e with key:=.int k n,val:=ay}:=by
   rw[Array.toList_modify];apply List.ext_getElem?;intro i;rw[List.getElem?_modify,List.getElem?_modify];by_cases g2:j=i
   ·subst g2;rw[dP];simp[←gT]
   ·simp[g2]
  rw[kK];exact this
theorem en.VB{α:Type}{T K E d clock:Nat}{k:IntKind}{x y v:Operand}{n:Int}{es:Array MapEntry}{z:Value}{a0:α}(l:List (Int×α))(enc:α→U)(a:α)(h:o.op=.entryStore T x y v)(u:ev x=.dm d)(ah:ev y=.int .i64 (l2 k n es clock:Int))(af:ev v=enc a)(aa:(enc a).closed=true)
  (Z:σ.get d=some (.gj (jF k n z es clock) (qs k n es clock) K E (dy k enc l))) (bl:bT l n=some a0) :
  g8 G o ev σ [d] [] (λr az=>r=.undef∧az=σ.set d (.map K E (dy k enc (c6 l n a)))):=by
 intro cx I β w aP aq hop;have h1:=hop x (by simp[h,Op.operands]);rw[u]at h1
 have D:=hop y (by simp[h,Op.operands]);rw[ah]at D;have D:=iH D
 have ak:=hop v (by simp[h,Op.operands]);rw[af]at ak
 have ak:=ar.closed _ _ aa ak;simp only[ar]at h1;obtain⟨h1,rW⟩:=h1;have h3:β d≠.nilFunc:=λe=>by rw[h1,e]at rW;simp[k3]at rW
 have aj:=aq.cB d _ Z;simp only[aU,h3,false_or]at aj;obtain⟨r,an,au,aK,aG,bb,bC⟩:=aj;have b6:=nS (P:=G.P) au
 have gy:∀aI:Obj,(setObj r aI).run G.P w=.ok () {w with heap:=w.heap.setIfInBounds r aI}:=λaI=>by
  have:=gV au;simp[setObj,Sem.run,au]
 have hH:aP x=.map (some r):=by rw[h1,an]
 obtain⟨j,e,m1,m2,aiq,air⟩:=aef aK bC bl
 have eX:(execOp aP o).run G.P w=.ok .skip {w with heap:=w.heap.setIfInBounds r (.map ((jF k n z es clock).modify j λe=>{e with val:=aP v}) (qs k n es clock))}:=by
  simp[execOp,h,Instr.entryStore,hH,D,b6,asInt,asIntOf,m1,gy]
 rw[eX];refine⟨.undef,_,I,β,⟨rfl,rfl⟩,by simp[ar,aO],?_,b7.refl I,λ_ _=>rfl,λx u=>by rw[Y.hU,if_neg (by simpa using u)]⟩;have eT:bV (β d)=some r:=by rw[an];rfl
 refine aq.turn (d:=d) (gn.setObj w r _) bb (λx u=>by rw[Y.hU,if_neg u]) (λx u W e=>aq.dn x d W (by rw[Z];rfl) u r e (je eT)) (b7.refl I) (λ_ _ _=>rfl)
  (λo v af=>by rw[aG o]at af;cases af) (aG none) (λ_ _=>rfl) (.inr rfl) (g0.refl β) (.inl eT) λaI b3=>?_
 rw[Y.hU,if_pos rfl,Z]at b3;injection b3 with b3
 subst b3;simp only[aU];exact .inr ⟨r,_,_,an,by have:=gV au;simp[Array.getElem?_setIfInBounds,this],air a (aP v) ak,aG,bb,bC.modify _ _ λ_=>rfl⟩
end
end
section
open Go.ChangeMaps (setBlock)
section cert
variable {G:cq}{ops:Array Oper}{K:ai→Y→Prop}
theorem e7.log:∀{l:List Nat} {log D1:List (Nat×List Nat)} {env:ai} {σ:Y},e7 G ops ⟨false,[],[]⟩ log l env σ K→e7 G ops ⟨false,[],[]⟩ D1 l env σ K
 |[],_,_,_,_,h=>h
 |i::l,log,D1,env,σ,h=>by
  obtain⟨o,aj,h⟩:=h;refine⟨o,aj,?_⟩;rcases h with⟨h1,D,ak⟩|⟨h1,D,dD,R,bE,σ2,ak,bc,bX,dV,fF⟩|⟨h1,D,M,news,Φ,ak,bc,bX,dV,fF⟩|⟨h1,D,ak⟩
  ·exact .inl ⟨h1,D,e7.log ak⟩
  ·exact .inr (.inl ⟨h1,D,dD,R,bE,σ2,ak,bc,bX,dV,e7.log fF⟩)
  ·exact .inr (.inr (.inl ⟨h1,D,M,news,Φ,ak,(λh=>by cases h),bX,dV,λbE az bR=>e7.log (fF bE az bR)⟩))
  ·exact .inr (.inr (.inr ⟨h1,D,e7.log ak⟩))
theorem e7.append{hQ:List Nat}:∀{jt:List Nat} {log:List (Nat×List Nat)} {env:ai} {σ:Y},e7 G ops ⟨false,[],[]⟩ log jt env σ (λe s=>e7 G ops ⟨false,[],[]⟩ [] hQ e s K)→e7 G ops ⟨false,[],[]⟩ log (jt++hQ) env σ K
 |[],_,_,_,h=>e7.log h
 |i::l,log,env,σ,h=>by
  obtain⟨o,aj,h⟩:=h;refine⟨o,aj,?_⟩;rcases h with⟨h1,D,ak⟩|⟨h1,D,dD,R,bE,σ2,ak,bc,bX,dV,fF⟩|⟨h1,D,M,news,Φ,ak,bc,bX,dV,fF⟩|⟨h1,D,ak⟩
  ·exact .inl ⟨h1,D,e7.append ak⟩
  ·exact .inr (.inl ⟨h1,D,dD,R,bE,σ2,ak,bc,bX,dV,e7.append fF⟩)
  ·exact .inr (.inr (.inl ⟨h1,D,M,news,Φ,ak,bc,bX,dV,λbE az bR=>e7.append (fF bE az bR)⟩))
  ·exact .inr (.inr (.inr ⟨h1,D,e7.append ak⟩))
end cert
variable {id:Nat}
theorem A.DR{P:Program}{N:Nat}{ids:List Nat}{bH:gC}{env:ai}{σ:Y}{Q:Exit→ai→Y→Prop}(a1:ji P bH){ops:Array Oper}(n:Nat)(hQ:List Nat)(W:List (Nat×Hint P))(aA:ai)(dF:Y){o:Oper}{M news:List Nat}{Φ:U→Y→Prop}
  (aJ:List.range ops.size=List.range n++n::hQ) (Z:uO N ops=true) (h1:qq bH ids ops ⟨false,[],[]⟩ ((List.range n).map λi=>(i,hintOf W i)) [] env σ=some (aA,dF,(List.range n).map λi=>(hintOf W i).exp))
  (aj:ops[n]?=some o) (bl:o.guard=none) (en:g8 ⟨P,N,ids⟩ o aA.ev dF M news Φ) (aa:aA.clean news.contains=true) (aT:news.all (λd=>!ids.contains d&&(dF.get d).isNone)=true)
  (k:∀bE az,Φ bE az→∃(eA:List (Nat×Hint P)) (e2:ai) (dO:Y),qq bH ids ops ⟨false,[],[]⟩ (hQ.map λi=>(i,hintOf eA i)) [] (aA.put o.dst bE) az=some (e2,dO,hQ.map λi=>(hintOf eA i).exp)∧Q .normal e2 dO):aY ⟨P,N,ids⟩ (.region id ops false) Q env σ:=by
 refine A.region Z ?_;rw[aJ]
 have run:∀(W:List (Nat×Hint P)) (l:List Nat) {K:ai→Y→Prop} {e cw:ai} {s dg:Y},qq bH ids ops ⟨false,[],[]⟩ (l.map λi=>(i,hintOf W i)) [] e s=some (cw,dg,l.map λi=>(hintOf W i).exp)→K cw dg→e7 ⟨P,N,ids⟩ ops ⟨false,[],[]⟩ [] l e s K:=λW l K e cw s dg h fz=>by
  have:=uu (N:=N) (K:=K) a1 h (by rw[List.map_map];rfl) fz;rw[List.map_map,show((λx:Nat×Hint P=>x.1)∘λi=>(i,hintOf W i))=λi=>i from rfl,List.map_id']at this;exact this
 refine e7.append (run W _ h1 ?_);refine⟨o,aj,.inr (.inr (.inl ⟨?_,(λh=>by cases h),M,news,Φ,en,(λh=>by cases h),aa,λd Z=>?_,λbE az bR=>?_⟩))⟩
 ·simp only[iE,bl]
 ·have:=List.all_eq_true.1 aT d Z;simpa using this
 ·obtain⟨eA,e2,dO,cF,cW⟩:=k bE az bR;exact run eA _ cF cW
section iter
variable {G:cq}{σ:Y}{o:Oper}{ev:Operand→U}
theorem GI{cx:eO}{I:bw}{β:Nat→Value}{w:World}(aq:bS G cx I β σ w){cp clock:Nat}{es:Array MapEntry}{bx:List (U×U)}{seen:Array Nat}(hi:σ.get cp=some (.ig es clock bx seen)){v:Value}(h1:ar I β (.ptr cp 0) v):
  ∃r fh,v=.pointer (some ⟨r,0,none⟩)∧bV (β cp)=some r∧w.heap[r]?=some (.mapIter (some fh) clock seen clock)∧w.heap[fh]?=some (.map es clock)∧I fh none=some (od es clock)∧e9 I bx es.toList∧iK es clock∧(∀o,I r o=none)∧Place cx r∧β cp=.pointer (some ⟨r,0,none⟩):=by
 simp only[ar]at h1;obtain⟨b,h1,D⟩:=h1;have fA:β cp≠.nilFunc:=λe=>by rw[e]at h1;cases h1
 have aj:=aq.cB cp _ hi;simp only[aU,fA,false_or]at aj;obtain⟨r,fh,an,au,aK,aG,bb,bC,bY⟩:=aj;have xL:b=r:=by rw[an]at h1;simpa [bV]using h1.symm
 subst xL;obtain⟨gG,jC,cF,cW⟩:=aq.h9 fh _ aK;obtain⟨rfl,rfl⟩:=F6 cW;exact⟨b,fh,D,h1,au,cF,aK,aG,bb,bC,bY,an⟩
theorem en.Oi{T K E cp:Nat}{x:Operand}{bx:List (U×U)}(h:o.op=.range T x)(u:ev x=.de bx)(aH:G.P.underlying T=some (.map K E))(hi:G.ids.contains cp=false)(aa:σ.clean [cp].contains=true):
  g8 G o ev σ [cp] [cp] (λr az=>r=.ptr cp 0∧∃es clock,az=(cp,.ig es clock bx #[])::σ):=by
 intro cx I β w aP aq hop;have h1:=hop x (by simp[h,Op.operands]);rw[u]at h1
 simp only[ar,aO]at h1;obtain⟨fh,es,clock,an,au,aK,aG⟩:=h1;obtain⟨gG,jC,cF,cW⟩:=aq.h9 fh _ au;obtain⟨rfl,rfl⟩:=F6 cW;have eX:(execOp aP o).run G.P w=.ok (.value (.pointer (some ⟨w.heap.size,0,none⟩))) (w.alloc (.mapIter (some fh) clock #[] clock)):=by
  simp[execOp,h,an,run_range_map w T K E fh es clock aH cF]
 rw[eX];have af:=aq.oS (dD:=[cp]) (σ2:=σ) (env:=[]) ⟨λ_ _=>rfl,by simpa using hi,rfl,aa,λx u cT n h=>by have:=(Y.iu aa x _ h).1;rw[List.contains_iff_mem.2 u]at this;cases this⟩;have V:∀y,y≠cp→g9 (gF β [cp]) cp (.pointer (some ⟨w.heap.size,0,none⟩)) y=β y:=λy ah=>by rw[gU _ _ ah];simp[gF,ah]
 have oA:g9 (gF β [cp]) cp (.pointer (some ⟨w.heap.size,0,none⟩)) cp=.pointer (some ⟨w.heap.size,0,none⟩):=g7 _ _ _;refine⟨.ptr cp 0,_,I,g9 (gF β [cp]) cp (.pointer (some ⟨w.heap.size,0,none⟩)),⟨rfl,es,clock,rfl⟩,?_,?_,b7.refl I,λy ah=>V y (by simpa using ah),λy ah=>by rw[Y.c4,if_neg (Ne.symm (by simpa using ah))]⟩
 ·simp only[ar,oA];exact⟨w.heap.size,rfl,rfl⟩
 ·refine af.turn (d:=cp) (gn.alloc w _) (.inl aq.size) (λx u=>by rw[Y.c4,if_neg (Ne.symm u)]) (λx u W e=>by
    obtain⟨aI,W⟩:=Option.isSome_iff_exists.1 W;exact absurd (af.qa W e) (by omega)) (b7.refl I) (λ_ _ _=>rfl) (λg4 dI lD=>by rw[aq.ic (Nat.le_refl _)]at lD;cases lD) (aq.ic (Nat.le_refl _) none)
   (λx u=>gU _ _ u) (.inl (by simpa using hi)) (g0.w6 (by simp[gF])) (.inl (by rw[oA];rfl)) λaI b3=>?_
  rw[Y.c4,if_pos rfl]at b3;cases b3;simp only[aU,oA];exact .inr ⟨w.heap.size,fh,rfl,heap_alloc_new w _,au,aK,aG,λo=>aq.ic (Nat.le_refl _) o,.inl aq.size⟩
theorem en.aeg{cp clock:Nat}{x:Operand}{es:Array MapEntry}{bx:List (U×U)}{seen:Array Nat}(h:o.op=.next x false)(u:ev x=.ptr cp 0)(hi:σ.get cp=some (.ig es clock bx seen)):
  g8 G o ev σ [cp] [] (λr az=>((leftOf es seen).size=0∧r=.cD [.bool false]∧az=σ)∨∃e∈(leftOf es seen).toList,r=.cD [.bool true,.gq,.gq]∧az=σ.set cp (.ig es clock bx (seen.push e.born))):=by
 intro cx I β w aP aq hop;have h1:=hop x (by simp[h,Op.operands]);rw[u]at h1
 obtain⟨b,fh,D,eT,aK,cG,bC,bY,dP,aG,bb,an⟩:=GI aq hi h1;rcases run_next_at (P:=G.P) w o.type b fh clock clock seen es clock aK cG dP.2 (Nat.le_refl _)with⟨dF,dO⟩|⟨e,dF,g5,dO,s3⟩
 ·have eX:(execOp aP o).run G.P w=.ok (.value (.tuple #[.bool false])) w:=by simp[execOp,h,D,dO]
  rw[eX];refine⟨.cD [.bool false],σ,I,β,.inl ⟨dF,rfl,rfl⟩,?_,aq,b7.refl I,λ_ _=>rfl,λ_ _=>rfl⟩;simp[ar,bO,aO]
 ·have eX:(execOp aP o).run G.P w=.ok (.value (.tuple #[.bool true,e.key,e.val])) (setBlock g5 b (.mapIter (some fh) clock (seen.push e.born) clock)):=by simp[execOp,h,D,s3]
  rw[eX];refine⟨.cD [.bool true,.gq,.gq],σ.set cp (.ig es clock bx (seen.push e.born)),I,β,.inr ⟨e,dF,rfl,rfl⟩,?_,?_,b7.refl I,λ_ _=>rfl,λy ah=>by rw[Y.hU,if_neg (by simpa using ah)]⟩
  ·simp only[ar,bO,aO];exact⟨_,rfl,_,_,rfl,rfl,_,_,rfl,trivial,_,_,rfl,trivial,rfl⟩
  ·have hk:gn w (setBlock g5 b (.mapIter (some fh) clock (seen.push e.born) clock)) b:=by
    rcases dO with rfl|rfl
    ·exact gn.setObj _ b _
    ·exact gn.drew (gn.setObj _ b _)
   have cb:(setBlock g5 b (.mapIter (some fh) clock (seen.push e.born) clock)).heap[b]?=some (.mapIter (some fh) clock (seen.push e.born) clock):=by
    have bQ:=gV aK;have:g5.heap=w.heap:=by rcases dO with rfl|rfl<;>rfl
    simp[setBlock,this,Array.getElem?_setIfInBounds,bQ]
   refine aq.turn (d:=cp) hk bb (λx u=>by rw[Y.hU,if_neg u]) (λx u W cw=>aq.dn x cp W (by rw[hi];rfl) u b cw (je eT)) (b7.refl I) (λ_ _ _=>rfl)
    (λo v af=>by rw[aG o]at af;cases af) (aG none) (λ_ _=>rfl) (.inr rfl) (g0.refl β) (.inl eT) λaI b3=>?_
   rw[Y.hU,if_pos rfl,hi]at b3;injection b3 with b3
   subst b3;simp only[aU];exact .inr ⟨b,fh,an,cb,bC,bY,dP,aG,bb⟩
theorem bG.abg{α:Type}{cp clock i:Nat}{k:IntKind}{x:Operand}{es:Array MapEntry}{seen:Array Nat}{e:MapEntry}{n:Int}{v:α}(l:List (Int×α))(enc:α→U)(h:o.op=.entry x)(u:ev x=.ptr cp 0)(hi:σ.get cp=some (.ig es clock (dy k enc l) (seen.push e.born)))
  (he:es[i]?=some e) (aT:l[i]?=some (n,v)):Yields G o ev σ [] [cp] (.cD [.int k n,enc v]):=
 .pure λaz cx I β w aP b2 aq hop=>by
  have h1:=hop x (by simp[h,Op.operands]);rw[u]at h1
  obtain⟨b,fh,D,eT,aK,cG,bC,bY,dP,aG,bb,an⟩:=GI aq (by rw[b2 cp (by simp)];exact hi) h1;have qR:e∈es.toList:=by
   have:es.toList[i]?=some e:=by simpa using he
   exact List.mem_of_getElem? this
  have eX:(execOp aP o).run G.P w=.ok (.value (.tuple #[e.key,e.val])) w:=by simp[execOp,h,D,run_entry_at (P:=G.P) w b fh clock seen es clock e aK cG qR dP.1]
  refine⟨_,eX,?_⟩;obtain⟨dF,dO⟩:=Gm bY (i:=i) (a:=.int k n) (c:=enc v) (e:=e) (by simp[dy,aT]) (by simpa using he);simp only[ar,bO];exact⟨_,rfl,e.key,[e.val],rfl,dF,e.val,[],rfl,aO.rep β _ _ dO,rfl⟩
theorem bG.abh{bA α:Type}{cp clock i:Nat}{b4:bA→U}{x:Operand}{es:Array MapEntry}{seen:Array Nat}{e:MapEntry}{n:bA}{v:α}(l:List (bA×α))(enc:α→U)(h:o.op=.entry x)(u:ev x=.ptr cp 0)(hi:σ.get cp=some (.ig es clock (dz b4 enc l) (seen.push e.born)))
  (he:es[i]?=some e) (aT:l[i]?=some (n,v)):Yields G o ev σ [] [cp] (.cD [b4 n,enc v]):=
 .pure λaz cx I β w aP b2 aq hop=>by
  have h1:=hop x (by simp[h,Op.operands]);rw[u]at h1
  obtain⟨b,fh,D,eT,aK,cG,bC,bY,dP,aG,bb,an⟩:=GI aq (by rw[b2 cp (by simp)];exact hi) h1;have qR:e∈es.toList:=by
   have:es.toList[i]?=some e:=by simpa using he
   exact List.mem_of_getElem? this
  have eX:(execOp aP o).run G.P w=.ok (.value (.tuple #[e.key,e.val])) w:=by simp[execOp,h,D,run_entry_at (P:=G.P) w b fh clock seen es clock e aK cG qR dP.1]
  refine⟨_,eX,?_⟩;obtain⟨dF,dO⟩:=Gm bY (i:=i) (a:=b4 n) (c:=enc v) (e:=e) (by simp[dz,aT]) (by simpa using he);simp only[ar,bO];exact⟨_,rfl,e.key,[e.val],rfl,aO.rep β _ _ dF,e.val,[],rfl,aO.rep β _ _ dO,rfl⟩
end iter
theorem Nk{I:bw}:∀{bx:List (U×U)} {es:List MapEntry},e9 I bx es→es.length=bx.length
 |[],_,h=>by simp only[e9]at h;rw[h];rfl
 |(k,v)::r,_,h=>by
  simp only[e9]at h;obtain⟨e,bF,rfl,_,_,ak⟩:=h;simp[Nk ak]
theorem VW{A:Type}[DecidableEq A]{a b:List A}(h:a.Nodup)(W:∀x∈a,x∈b):a.length≤b.length:=by
 induction a generalizing b with
 |nil=>simp
 |cons x a bD=>
  rw[List.nodup_cons]at h;have u:=W x (by simp);have:=bD (b:=b.erase x) h.2 λy ah=>(List.mem_erase_of_ne (λe=>h.1 (by rw[←e];exact ah))).2 (W y (by simp[ah]));rw[List.length_erase_of_mem u]at this;have:=List.length_pos_of_mem u;simp only[List.length_cons];omega
variable {S α:Type}{b clock cp gI t1 t2:Nat}
theorem A.QH{bA:Type}{G:cq}{σ:Y}{env:ai}{Q:Exit→ai→Y→Prop}{b4:bA→U}{enc:α→U}{l:List (bA×α)}{es:Array MapEntry}{gd ey:Oper}{y:Code}
  (Inv:List (bA×α)→S→Prop) (kP:S) (fJ:S→ai) (fS:Array Nat→S→Y) (mG:gd.op=.next (.tmp gI) false∧gd.dst=some t1∧gd.guard=none) (jG:ey.op=.extract (.tmp t1) 0∧ey.dst=some t2∧ey.guard=none) (Z:uO G.N #[gd,ey]=true)
  (bJ:Inv [] kP) (pZ:∀g,(fJ g).get gI=.ptr cp 0) (xU:∀seen g,(fS seen g).get cp=some (.ig es clock (dz b4 enc l) seen))
  (gy:∀seen g dg,(fS seen g).set cp (.ig es clock (dz b4 enc l) dg)=fS dg g) (aq:b8 G env σ (fJ kP) (fS #[] kP))
  (body:∀(seen:Array Nat) (e:MapEntry) (i:Nat) (n:bA) (v:α) (p:List (bA×α)) (g:S),es[i]?=some e→l[i]?=some (n,v)→p.length<l.length→Inv p g→
   aY G y (q8 (λgm az=>∃iY,Inv (p++[(n,v)]) iY∧b8 G gm az (fJ iY) (fS (seen.push e.born) iY)) Q) ((t2,.bool true)::(t1,.cD [.bool true,.gq,.gq])::fJ g) (fS (seen.push e.born) g))
  (out:∀seen p g,p.Perm l→Inv p g→Q (.exit b) ((t2,.bool false)::(t1,.cD [.bool false])::fJ g) (fS seen g)) :
  aY G (.loop (.seq (.region id #[gd,ey] false) (.seq (.cond (.tmp t2) .skip (.exit b)) y))) Q env σ:=by
 refine A.loop (α:=Array Nat×S) (λs=>fJ s.2) (λs=>fS s.1 s.2) (λs=>∃p:List Nat,p.Nodup∧(∀i∈p,i<l.length)∧(∀(i:Nat) (e:MapEntry),es[i]?=some e→(s.1.contains e.born=true↔i∈p))∧Inv (lI l p) s.2)
  (λs=>(leftOf es s.1).size) (#[],kP) ⟨[],List.nodup_nil,by simp,by simp,bJ⟩ aq ?_
 rintro⟨seen,g⟩ ⟨p,bU,cG,dP,gT⟩;refine A.Qj (F:=es.size=l.length∧(es.toList.map (·.born)).Nodup) (λcx I β a w i4 aH=>?_) λ⟨f1,f2⟩=>?_
 ·have h1:=aH gI;rw[show(fJ (seen,g).2).get gI=.ptr cp 0 from pZ g]at h1;obtain⟨b,fh,D,eT,aK,cG,bC,bY,dP,aG,bb,an⟩:=GI i4 (xU seen g) h1;have:=Nk bY;exact⟨by simpa [dz]using this,dP.1⟩
 have vv:ai.get ((t2,.bool true)::(t1,.cD [.bool true,.gq,.gq])::fJ g) t2=.bool true:=by rw[ai.c4,if_pos rfl]
 have zh:ai.get ((t2,.bool false)::(t1,.cD [.bool false])::fJ g) t2=.bool false:=by rw[ai.c4,if_pos rfl]
 refine A.seq (A.region Z ?_);show e7 G #[gd,ey] ⟨false,[],[]⟩ [] [0,1] (fJ g) (fS seen g) _;refine⟨gd,rfl,.inr (.inr (.inl ⟨by simp only[iE,mG.2.2],by simp,[cp],[],_,en.aeg (x:=.tmp gI) mG.1 (pZ g) (xU seen g),by simp,ai.pR _,by simp,λbE az pV=>?_⟩))⟩
 have ext:∀(vs:List U) (dY:Bool) (az:Y) (K:ai→Y→Prop),vs[0]?=some (.bool dY)→K ((t2,.bool dY)::(t1,.cD vs)::fJ g) az→e7 G #[gd,ey] ⟨false,[],[]⟩ [] [1] ((fJ g).put gd.dst (.cD vs)) az K:=λvs dY az K af fz=>by
  refine⟨ey,rfl,.inr (.inl ⟨by simp only[iE,jG.2.2],by simp,[],[],.bool dY,az,uX.none _ _ _,by simp,by simp,bG.extract (x:=.tmp t1) jG.1 (by rw[mG.2.1];show ai.get _ _=_;rw[ai.put,ai.c4,if_pos rfl]) af,?_⟩)⟩;rw[mG.2.1,jG.2.1];exact fz
 rcases pV with⟨iT,rfl,rfl⟩|⟨e,iT,rfl,rfl⟩
 ·refine ext _ false _ _ rfl ?_
  have me:∀i,i∈p↔i<l.length:=λi=>⟨cG i,λbQ=>by
   have B6:i<es.size:=by omega
   refine(dP i es[i] (Array.getElem?_eq_getElem B6)).1 ?_;by_cases aa:seen.contains es[i].born=true
   ·exact aa
   ·exfalso;have:es[i]∈leftOf es seen:=by
     unfold leftOf;rw[Array.mem_filter];exact⟨Array.getElem_mem B6,by simpa using aa⟩
    have:leftOf es seen≠#[]:=λe=>by rw[e]at this;simp at this
    exact this (Array.eq_empty_of_size_eq_zero iT)⟩
  have aB:(lI l p).Perm l:=by
   have:=(Lb bU me).filterMap λi=>l[i]?;have e2:=LF l;unfold lI at e2 ⊢
   rwa [e2]at this
  refine A.seq (A.cond (b:=false) zh (λh=>by cases h) λ_=>A.exit ?_);exact out seen _ g aB gT
 ·refine ext _ true _ _ rfl ?_;rw[gy seen g];obtain⟨fO,hL⟩:=mem_left iT;obtain⟨i,hh⟩:=List.getElem?_of_mem fO;have hh:es[i]?=some e:=by simpa using hh
  have s4:i<l.length:=by have:=(Array.getElem?_eq_some_iff.1 hh).1;omega
  have mY:i∉p:=λh=>by
   have:=(dP i e hh).2 h;rw[hL]at this;cases this
  have vG:l[i]?=some (l[i].1,l[i].2):=List.getElem?_eq_getElem s4;have fm:(p++[i]).Nodup:=by
   rw[List.nodup_append];exact⟨bU,by simp,λa aC c aa=>by simp only[List.mem_singleton]at aa;subst aa;exact λe=>mY (e▸aC)⟩
  have uW:∀j∈p++[i],j<l.length:=λj aM=>by
   rcases List.mem_append.1 aM with aM|aM
   ·exact cG j aM
   ·rw[List.mem_singleton.1 aM];exact s4
  have aA:lI l (p++[i])=lI l p++[(l[i].1,l[i].2)]:=by
   unfold lI;rw[List.filterMap_append];simp[List.filterMap_cons,List.getElem?_eq_getElem s4]
  refine A.seq (A.cond (b:=true) vv (λ_=>A.skip ?_) λh=>by cases h);refine(body seen e i l[i].1 l[i].2 _ g hh vG (by
   have h1:=VW fm (b:=List.range l.length) λj aM=>List.mem_range.2 (uW j aM);have D:(lI l p).length≤p.length:=List.length_filterMap_le ..;rw[List.length_range,List.length_append]at h1;simp only[List.length_cons,List.length_nil]at h1;omega) gT).mono λex gm az bR=>?_
  cases ex with
  |normal=>
   obtain⟨iY,vP,Ce⟩:=bR;refine⟨(seen.push e.born,iY),⟨p++[i],fm,uW,λj cw aM=>?_,by rw[aA];exact vP⟩,left_shrinks es seen e iT,Ce⟩;rw[contains_push,Bool.or_eq_true,beq_iff_eq,dP j cw aM,List.mem_append,List.mem_singleton];constructor
   ·rintro(h|h)
    ·exact .inl h
    ·right;have nZ:es.toList[j]?=some cw:=by simpa using aM
     have r1:es.toList[i]?=some e:=by simpa using hh
     have mh:=(List.getElem?_eq_some_iff.1 nZ).1;have vE:=(List.getElem?_eq_some_iff.1 r1).1;have cF:=(List.getElem?_eq_some_iff.1 nZ).2;have cW:=(List.getElem?_eq_some_iff.1 r1).2;have pw:=List.pairwise_iff_getElem.1 f2;rcases Nat.lt_trichotomy j i with q|q|q
     ·refine absurd ?_ (pw j i (by simpa using mh) (by simpa using vE) q);rw[List.getElem_map,List.getElem_map,cF,cW,h]
     ·exact q
     ·refine absurd ?_ (pw i j (by simpa using vE) (by simpa using mh) q);rw[List.getElem_map,List.getElem_map,cF,cW,h]
   ·rintro(h|h)
    ·exact .inl h
    ·subst h;rw[hh]at aM;cases aM;exact .inr rfl
  |_=>exact bR
theorem A.aja{G:cq}{σ:Y}{env:ai}{Q:Exit→ai→Y→Prop}{k:IntKind}{enc:α→U}{l:List (Int×α)}{es:Array MapEntry}{gd ey:Oper}{y:Code}
  (Inv:List (Int×α)→S→Prop) (kP:S) (fJ:S→ai) (fS:Array Nat→S→Y) (mG:gd.op=.next (.tmp gI) false∧gd.dst=some t1∧gd.guard=none) (jG:ey.op=.extract (.tmp t1) 0∧ey.dst=some t2∧ey.guard=none) (Z:uO G.N #[gd,ey]=true)
  (bJ:Inv [] kP) (pZ:∀g,(fJ g).get gI=.ptr cp 0) (xU:∀seen g,(fS seen g).get cp=some (.ig es clock (dy k enc l) seen))
  (gy:∀seen g dg,(fS seen g).set cp (.ig es clock (dy k enc l) dg)=fS dg g) (aq:b8 G env σ (fJ kP) (fS #[] kP))
  (body:∀(seen:Array Nat) (e:MapEntry) (i:Nat) (n:Int) (v:α) (p:List (Int×α)) (g:S),es[i]?=some e→l[i]?=some (n,v)→Inv p g→
   aY G y (q8 (λgm az=>∃iY,Inv (p++[(n,v)]) iY∧b8 G gm az (fJ iY) (fS (seen.push e.born) iY)) Q) ((t2,.bool true)::(t1,.cD [.bool true,.gq,.gq])::fJ g) (fS (seen.push e.born) g))
  (out:∀seen p g,p.Perm l→Inv p g→Q (.exit b) ((t2,.bool false)::(t1,.cD [.bool false])::fJ g) (fS seen g)) :
  aY G (.loop (.seq (.region id #[gd,ey] false) (.seq (.cond (.tmp t2) .skip (.exit b)) y))) Q env σ:=
 A.QH (b4:=λn=>.int k n) Inv kP fJ fS mG jG Z bJ pZ xU gy aq (λseen e i n v p g h1 D _ ak=>body seen e i n v p g h1 D ak) out
end
section
section
variable {P:Program}
def G6(aV:Nat)(op:Op)(env:ai)(σ:Y):Option (cA×cf):=match op with
 |.indexAddr T x y=>(match env.cz x with
  |some (.own d)=>(match env.cz y with
   |some (.int k i)=>(match σ.get d with
    |some (.gZ hC xs t)=>bif Nat.beq T aV then some (.y [d] (.ptr d i.toNat),([.int .i64 i],[(0,.gZ 0 xs 0)]))else none
    |_=>none)
   |_=>none)
  |_=>none)
 |_=>none
theorem abi{aV E:Nat}{xs:List (List U)}{i:Int}(aH:jh P aV E 1)(hi:0≤i∧i<(xs.length:Int)+1){o:Oper}{N:Nat}{ids:List Nat}{env:ai}{σ:Y}{s:cA}{aI:cf}
  (h:G6 aV o.op env σ=some (s,aI)) (he:aI=([.int .i64 i],[(0,.gZ 0 xs 0)])):e1 ⟨P,N,ids⟩ o env σ s:=by
 cases aj:o.op<;>rw[aj]at h
 case indexAddr T x y=>
  simp only[G6]at h;split at h
  ·rename_i d u;split at h
   ·rename_i k E5 ah;split at h
    ·rename_i hC kE t Z;cases aa:Nat.beq T aV with
     |false=>rw[aa]at h;cases h
     |true=>
      rw[aa]at h;have:=Nat.eq_of_beq_eq_true aa;subst this;cases h;simp only[Prod.mk.injEq,List.cons.injEq,U.int.injEq,cn.gZ.injEq,and_true,true_and]at he;obtain⟨rfl,rfl⟩:=he;exact bG.abS aj (ai.b5 u) (ai.b5 ah) Z aH hi
    ·cases h
   ·cases h
  ·cases h
 all_goals (simp only[G6]at h;cases h)
def Ci{aV E:Nat}{xs:List (List U)}{i:Int}(aH:jh P aV E 1)(hi:0≤i∧i<(xs.length:Int)+1):Hint P:=
 .gs false ([.int .i64 i],[(0,.gZ 0 xs 0)]) (λ_=>G6 aV) λ_ _ _ _ _ _ _ h he=>abi aH hi h he
def G8(aV:Nat)(op:Op)(env:ai)(σ:Y):Option (cA×cf):=match op with
 |.load T x=>(match env.cz x with
  |some (.ptr d p)=>(match σ.get d with
   |some (.gZ hC xs t)=>(match σ.get t with
    |some jb=>bif Nat.beq T aV&&jb.D0 then some (.y [d,t] (.dm t),([.ptr 0 p],[(0,.gZ 0 xs 0)]))else none
    |_=>none)
   |_=>none)
  |_=>none)
 |_=>none
theorem abj{aV p:Nat}{xs:List (List U)}(aH:dM P aV 1 false)(aB:p=xs.length){o:Oper}{N:Nat}{ids:List Nat}{env:ai}{σ:Y}{s:cA}{aI:cf}
  (h:G8 aV o.op env σ=some (s,aI)) (he:aI=([.ptr 0 p],[(0,.gZ 0 xs 0)])):e1 ⟨P,N,ids⟩ o env σ s:=by
 cases aj:o.op<;>rw[aj]at h
 case load T x=>
  simp only[G8]at h;split at h
  ·rename_i d tD u;split at h
   ·rename_i hC kE t Z;split at h
    ·rename_i jb bB;cases aa:(Nat.beq T aV&&jb.D0)with
     |false=>rw[aa]at h;cases h
     |true=>
      rw[aa]at h;simp only[Bool.and_eq_true]at aa;have:=Nat.eq_of_beq_eq_true aa.1;subst this;cases h;simp only[Prod.mk.injEq,List.cons.injEq,U.ptr.injEq,cn.gZ.injEq,and_true,true_and]at he;obtain⟨rfl,rfl⟩:=he;exact bG.abT aj (ai.b5 u) Z aB bB aa.2 aH
    ·cases h
   ·cases h
  ·cases h
 all_goals (simp only[G8]at h;cases h)
def n4{aV p:Nat}{xs:List (List U)}(aH:dM P aV 1 false)(aB:p=xs.length):Hint P:=
 .gs false ([.ptr 0 p],[(0,.gZ 0 xs 0)]) (λ_=>G8 aV) λ_ _ _ _ _ _ _ h he=>abj aH aB h he
def G9(aV:Nat)(a:U)(op:Op)(env:ai)(σ:Y):Option (cA×cf):=match op with
 |.load T x=>(match env.cz x with
  |some (.ptr d p)=>(match σ.get d with
   |some (.gZ hC xs t)=>bif Nat.beq T aV then some (.y [d] a,([.ptr 0 p],[(0,.gZ 0 xs 0)]))else none
   |_=>none)
  |_=>none)
 |_=>none
theorem abk{aV p:Nat}{xs:List (List U)}{a:U}(aH:dM P aV 1 false)(aB:xs[p]?=some [a]){o:Oper}{N:Nat}{ids:List Nat}{env:ai}{σ:Y}{s:cA}{aI:cf}
  (h:G9 aV a o.op env σ=some (s,aI)) (he:aI=([.ptr 0 p],[(0,.gZ 0 xs 0)])):e1 ⟨P,N,ids⟩ o env σ s:=by
 cases aj:o.op<;>rw[aj]at h
 case load T x=>
  simp only[G9]at h;split at h
  ·rename_i d tD u;split at h
   ·rename_i hC kE t Z;cases aa:Nat.beq T aV with
    |false=>rw[aa]at h;cases h
    |true=>
     rw[aa]at h;have:=Nat.eq_of_beq_eq_true aa;subst this;cases h;simp only[Prod.mk.injEq,List.cons.injEq,U.ptr.injEq,cn.gZ.injEq,and_true,true_and]at he;obtain⟨rfl,rfl⟩:=he;exact bG.abf aj (ai.b5 u) Z aB aH
   ·cases h
  ·cases h
 all_goals (simp only[G9]at h;cases h)
def SH{aV p:Nat}{xs:List (List U)}{a:U}(aH:dM P aV 1 false)(aB:xs[p]?=some [a]):Hint P:=
 .gs false ([.ptr 0 p],[(0,.gZ 0 xs 0)]) (λ_=>G9 aV a) λ_ _ _ _ _ _ _ h he=>abk aH aB h he
def G5(aV eH d2:Nat)(ids:List Nat)(op:Op)(env:ai)(σ:Y):Option (cA×cf):=match op with
 |.call c=>(match c.callee with
  |.builtin b=>(match b with
   |.append=>(match c.args.toList with
    |[s,x]=>(match c.argTypes.toList with
     |[T,aW]=>(match env.cz s with
      |some (.own d)=>(match σ.get d with
       |some (.slice hC 1 xs 0 cU)=>(match env.cz x with
        |some (.fm (.y2 1) lq)=>(match σ.get lq with
         |some (.cells yT [.dm t])=>bif Nat.beq T aV&&Nat.beq aW aV&&Nat.beq hC eH&&!ids.contains d2&&(σ.minus [d]).clean [d2].contains&&!Nat.beq lq d&&!Nat.beq t d then
           some (.e [d,d2] [d2] (.own d2) ((d2,.gZ hC xs t)::σ.minus [d]),([],[(0,.gZ 0 xs 0)]))else none
         |_=>none)
        |_=>none)
       |_=>none)
      |_=>none)
     |_=>none)
    |_=>none)
   |_=>none)
  |_=>none)
 |_=>none
theorem abl{aV eH bytes d2:Nat}{xs:List (List U)}(dR:jE P aV eH 1 bytes)(V:(xs.length+1)*bytes≤140737488355328)(oz:xs.length+1≤maxLen){o:Oper}{N:Nat}{ids:List Nat}{env:ai}{σ:Y}{s:cA}{aI:cf}
  (h:G5 aV eH d2 ids o.op env σ=some (s,aI)) (he:aI=([],[(0,.gZ 0 xs 0)])):e1 ⟨P,N,ids⟩ o env σ s:=by
 cases aj:o.op<;>rw[aj]at h
 case call c=>
  obtain⟨cl,args,tys⟩:=c;simp only[G5]at h;split at h
  ·rename_i b;split at h
   ·split at h
    ·rename_i dF x lB;have:args=#[dF,x]:=Array.toList_inj.1 (by simpa using lB);subst this;split at h
     ·rename_i T aW Bs;have:tys=#[T,aW]:=Array.toList_inj.1 (by simpa using Bs);subst this;split at h
      ·rename_i d W;split at h
       ·rename_i hC kE cU Z;split at h
        ·rename_i lq u;split at h
         ·rename_i yT t gN;cases aa:(Nat.beq T aV&&Nat.beq aW aV&&Nat.beq hC eH&&!ids.contains d2&&(σ.minus [d]).clean [d2].contains&&!Nat.beq lq d&&!Nat.beq t d)with
          |false=>rw[aa]at h;cases h
          |true=>
           rw[aa]at h;simp only[Bool.and_eq_true,Bool.not_eq_true']at aa;obtain⟨⟨⟨⟨⟨⟨bk,bZ⟩,c1⟩,fu⟩,gl⟩,it⟩,ov⟩:=aa;have:=Nat.eq_of_beq_eq_true bk;subst this
           have:=Nat.eq_of_beq_eq_true bZ;subst this
           have:=Nat.eq_of_beq_eq_true c1;subst this
           cases h;simp only[Prod.mk.injEq,List.cons.injEq,cn.gZ.injEq,and_true,true_and]at he;subst he;exact⟨en.YE aj (ai.b5 W) Z (ai.b5 u) gN dR rfl V oz fu gl (Nat.ne_of_beq_eq_false it) (Nat.ne_of_beq_eq_false ov),by simp only[List.all_cons,List.all_nil,fu];rfl⟩
         ·cases h
        ·cases h
       ·cases h
      ·cases h
     ·cases h
    ·cases h
   ·cases h
  ·cases h
 all_goals (simp only[G5]at h;cases h)
def SG{aV eH bytes:Nat}(d2:Nat){xs:List (List U)}(dR:jE P aV eH 1 bytes)(V:(xs.length+1)*bytes≤140737488355328)(oz:xs.length+1≤maxLen):Hint P:=
 .gs true ([],[(0,.gZ 0 xs 0)]) (G5 aV eH d2) λ_ _ _ _ _ _ _ h he=>abl dR V oz h he
def FF{α:Type}(aV e4 eH:Nat)(k:IntKind)(n:Int)(z:Value)(l:List (Int×α))(enc:α→U)(pN:α)(es:Array MapEntry)(clock:Nat)(op:Op)(env:ai)(σ:Y):Option (cA×cf):=match op with
 |.mapEntry T x y=>(match env.cz x with
  |some (.dm d)=>(match env.cz y with
   |some (.int eM kC)=>(match σ.get d with
    |some (.gj gG c K E bx)=>bif Nat.beq T aV&&Nat.beq K e4&&Nat.beq E eH then some (.e [d] [] (.cD [.gq,.int .i64 (l2 k n es clock:Int)]) (σ.set d (.gj (jF k n z es clock) (qs k n es clock) K E (dy k enc (c6 l n ((bT l n).getD pN))))),
      ([.de bx,.int eM kC],[(0,.gj gG c 0 0 [])]))else none
    |_=>none)
   |_=>none)
  |_=>none)
 |_=>none
theorem abm{α:Type}{aV e4 eH:Nat}{k:IntKind}{n:Int}{z:Value}{l:List (Int×α)}{enc:α→U}{pN:α}{es:Array MapEntry}{clock:Nat}(aH:k7 P aV e4 eH k)(hz:∀w,(zeroValue eH).run P w=.ok z w)(Cl:∀I,aO I (enc pN) z){o:Oper}{N:Nat}{ids:List Nat}{env:ai}{σ:Y}{s:cA}{aI:cf}
  (h:FF aV e4 eH k n z l enc pN es clock o.op env σ=some (s,aI)) (he:aI=([.de (dy k enc l),.int k n],[(0,.gj es clock 0 0 [])])):e1 ⟨P,N,ids⟩ o env σ s:=by
 cases aj:o.op<;>rw[aj]at h
 case mapEntry T x y=>
  simp only[FF]at h;split at h
  ·rename_i d u;split at h
   ·rename_i eM kC ah;split at h
    ·rename_i gG c K E bx Z;cases aa:(Nat.beq T aV&&Nat.beq K e4&&Nat.beq E eH)with
     |false=>rw[aa]at h;cases h
     |true=>
      rw[aa]at h;simp only[Bool.and_eq_true]at aa;obtain⟨⟨bk,bZ⟩,c1⟩:=aa;have:=Nat.eq_of_beq_eq_true bk;subst this
      have:=Nat.eq_of_beq_eq_true bZ;subst this
      have:=Nat.eq_of_beq_eq_true c1;subst this
      cases h;simp only[Prod.mk.injEq,List.cons.injEq,U.de.injEq,U.int.injEq,cn.gj.injEq,and_true,true_and]at he;obtain⟨⟨rfl,rfl,rfl⟩,rfl,rfl⟩:=he;exact⟨en.Wd l enc pN aj (ai.b5 u) (ai.b5 ah) Z aH hz Cl,rfl⟩
    ·cases h
   ·cases h
  ·cases h
 all_goals (simp only[FF]at h;cases h)
def Sj{α:Type}{aV e4 eH:Nat}{k:IntKind}{z:Value}(n:Int)(l:List (Int×α))(enc:α→U)(pN:α)(es:Array MapEntry)(clock:Nat)(aH:k7 P aV e4 eH k)(hz:∀w,(zeroValue eH).run P w=.ok z w)(Cl:∀I,aO I (enc pN) z):Hint P:=
 .gs true ([.de (dy k enc l),.int k n],[(0,.gj es clock 0 0 [])]) (λ_=>FF aV e4 eH k n z l enc pN es clock) λ_ _ _ _ _ _ _ h he=>abm aH hz Cl h he
def EC{α:Type}(k:IntKind)(n:Int)(l:List (Int×α))(enc:α→U)(a:α)(op:Op)(env:ai)(σ:Y):Option (cA×cf):=match op with
 |.entryStore T x y v=>(match env.cz x with
  |some (.dm d)=>(match env.cz y with
   |some (.int hj b)=>(match env.cz v with
    |some bE=>(match σ.get d with
     |some (.gj es c K E bx)=>some (.e [d] [] .undef (σ.set d (.map K E (dy k enc (c6 l n a)))),([.de bx,.int hj b,bE],[(0,.gj es c 0 0 [])]))
     |_=>none)
    |_=>none)
   |_=>none)
  |_=>none)
 |_=>none
theorem abn{α:Type}{k:IntKind}{n:Int}{z:Value}{l:List (Int×α)}{enc:α→U}{a a0:α}{es:Array MapEntry}{clock:Nat}(bl:bT l n=some a0)(aa:(enc a).closed=true){o:Oper}{N:Nat}{ids:List Nat}{env:ai}{σ:Y}{s:cA}{aI:cf}
  (h:EC k n l enc a o.op env σ=some (s,aI)) (he:aI=([.de (dy k enc l),.int .i64 (l2 k n es clock:Int),enc a],[(0,.gj (jF k n z es clock) (qs k n es clock) 0 0 [])])):e1 ⟨P,N,ids⟩ o env σ s:=by
 cases aj:o.op<;>rw[aj]at h
 case entryStore T x y v=>
  simp only[EC]at h;split at h
  ·rename_i d u;split at h
   ·rename_i hj b ah;split at h
    ·rename_i bE af;split at h
     ·rename_i gG c K E bx Z;cases h;simp only[Prod.mk.injEq,List.cons.injEq,U.de.injEq,U.int.injEq,cn.gj.injEq,and_true,true_and]at he;obtain⟨⟨rfl,⟨rfl,rfl⟩,rfl⟩,rfl,rfl⟩:=he;exact⟨en.VB l enc a aj (ai.b5 u) (ai.b5 ah) (ai.b5 af) aa Z bl,rfl⟩
     ·cases h
    ·cases h
   ·cases h
  ·cases h
 all_goals (simp only[EC]at h;cases h)
def i5{α:Type}{k:IntKind}{a0:α}(n:Int)(z:Value)(l:List (Int×α))(enc:α→U)(a:α)(es:Array MapEntry)(clock:Nat)(bl:bT l n=some a0)(aa:(enc a).closed=true):Hint P:=
 .gs true ([.de (dy k enc l),.int .i64 (l2 k n es clock:Int),enc a],[(0,.gj (jF k n z es clock) (qs k n es clock) 0 0 [])]) (λ_=>EC k n l enc a) λ_ _ _ _ _ _ _ h he=>abn (z:=z) bl aa h he
def vn(cp:Nat)(a:U)(op:Op)(env:ai)(σ:Y):Option (cA×cf):=match op with
 |.entry x=>(match env.cz x with
  |some (.ptr sV 0)=>(match σ.get cp with
   |some (.ig es c bx seen)=>bif Nat.beq sV cp then some (.y [cp] a,([.de bx],[(0,.ig es c [] seen)]))else none
   |_=>none)
  |_=>none)
 |_=>none
theorem abo{α:Type}{cp clock i:Nat}{k:IntKind}{es:Array MapEntry}{seen:Array Nat}{e:MapEntry}{n:Int}{v:α}{l:List (Int×α)}{enc:α→U}(hv:es[i]?=some e)(aJ:l[i]?=some (n,v)){o:Oper}{N:Nat}{ids:List Nat}{env:ai}{σ:Y}{s:cA}{aI:cf}
  (h:vn cp (.cD [.int k n,enc v]) o.op env σ=some (s,aI)) (he:aI=([.de (dy k enc l)],[(0,.ig es clock [] (seen.push e.born))])):e1 ⟨P,N,ids⟩ o env σ s:=by
 cases aj:o.op<;>rw[aj]at h
 case entry x=>
  simp only[vn]at h;split at h
  ·rename_i sV u;split at h
   ·rename_i gG c bx ajf Z;cases V:Nat.beq sV cp with
    |false=>rw[V]at h;cases h
    |true=>
     rw[V]at h;have:=Nat.eq_of_beq_eq_true V;subst this;cases h;simp only[Prod.mk.injEq,List.cons.injEq,U.de.injEq,cn.ig.injEq,and_true,true_and]at he;obtain⟨rfl,rfl,rfl,rfl⟩:=he;exact bG.abg l enc aj (ai.b5 u) Z hv aJ
   ·cases h
  ·cases h
 all_goals (simp only[vn]at h;cases h)
def ahW{α:Type}{es:Array MapEntry}{i:Nat}{e:MapEntry}{n:Int}{v:α}{l:List (Int×α)}(cp clock:Nat)(k:IntKind)(seen:Array Nat)(enc:α→U)(hv:es[i]?=some e)(aJ:l[i]?=some (n,v)):Hint P:=
 .gs false ([.de (dy k enc l)],[(0,.ig es clock [] (seen.push e.born))]) (λ_=>vn cp (.cD [.int k n,enc v])) λ_ _ _ _ _ _ _ h he=>abo hv aJ h he
end
end
section
variable {env:ai}{ho:U→Y→Prop}{σ:Y}
theorem ri.mono{G:cq}{fn:Func}{A8:U→Y→Prop}{e:Exit}(h:ri G fn ho e env σ)(aB:∀a s,ho a s→A8 a s):ri G fn A8 e env σ:=by
 obtain⟨dx,σ2,aq,ax⟩:=h;refine⟨dx,σ2,aq,?_⟩;cases e with
 |normal=>obtain⟨cU,x,r,az,h1,D,ak,bc⟩:=ax;exact⟨cU,x,r,az,h1,D,ak,aB _ _ bc⟩
 |ret=>obtain⟨cU,x,r,az,h1,D,ak,bc⟩:=ax;exact⟨cU,x,r,az,h1,D,ak,aB _ _ bc⟩
 |_=>exact ax
variable {N:Nat}{P:Program}{cO:List U}{f:FuncId}
theorem en.H7{ids:List Nat}{dB:Y}{o:Oper}{c:Call}{Td:List U}(news:List Nat)(aj:o.op=.call c)(aC:sv env c=some (f,Td))(W:q3 dB.ids σ Td=some cO)(mX:σ.at dB.ids=some dB)
  (dJ:news.all (λd=>!ids.contains d&&(σ.get d).isNone)=true) (eL:(σ.minus dB.ids).clean news.contains=true) (iP:∀r σ2,ho r σ2→r.refs (λd=>!(dB.ids++news).contains d)=false∧σ2.clean (λd=>!(dB.ids++news).contains d)=true) (bP:gi P f dB cO ho) (aa:dk P f) :
  g8 ⟨P,N,ids⟩ o env.ev σ (dB.ids++news) news (λr az=>∃σ2,ho r σ2∧az=σ2++σ.minus dB.ids):=by
 obtain⟨gH,args,k,aF,ps,rfl,be,aB,rfl⟩:=x7 aC;exact bW.Pf (G:=⟨P,N,ids⟩) (σ:=σ) news aj be aa.h bP aB (x4 W) (Y.oa mX).1 dJ eL iP
def IM{P:Program}(bH:gC)(ids:List Nat)(ops:Array Oper)(n:Nat)(iB:List l4)(W:List (Nat×Hint P))(env:ai)(σ:Y):Option (ai×Y×List cf):=match wT ids iB env σ with
 |none=>none
 |some (e0,h5)=>qq bH ids ops ⟨false,[],[]⟩ ((List.range n).map λi=>(i,hintOf W i)) [] e0 h5
def QI{P:Program}(bH:gC)(ids:List Nat)(ops:Array Oper)(n:Nat)(iB:List l4)(W:List (Nat×Hint P))(env:ai)(σ:Y):Option (FuncId×List U×List cf):=match IM bH ids ops n iB W env σ with
 |none=>none
 |some (aA,dF,i2)=>match ops[n]? with
  |none=>none
  |some o=>match o.guard with
   |some _=>none
   |none=>match o.op with
    |.call c=>(match sv aA c with
     |none=>none
     |some (f,ps)=>match q3 [] dF ps with
      |none=>none
      |some cO=>some (f,cO,i2))
    |_=>none
def QJ{P:Program}(bH:gC)(ids:List Nat)(ops:Array Oper)(n:Nat)(hQ:List Nat)(iB:List l4)(W eA:List (Nat×Hint P))(env:ai)(σ:Y)(bE:U)(ks ds:List Nat):Option (ai×Y×List cf):=match IM bH ids ops n iB W env σ with
 |none=>none
 |some (aA,dF,_)=>match ops[n]? with
  |none=>none
  |some o=>match qq bH ids ops ⟨false,[],[]⟩ (hQ.map λi=>(i,hintOf eA i)) [] (aA.put o.dst bE) dF with
   |none=>none
   |some (e2,dO,i2)=>match yC [] ds dO e2 ks with
    |none=>none
    |some b6=>match dO.at ds with
     |none=>none
     |some s3=>some (b6,s3,i2)
theorem A.M6{ids:List Nat}{bH:gC}{Q:Exit→ai→Y→Prop}{y:Code}(a1:ji P bH){id:Nat}{ops:Array Oper}(n:Nat)(hQ:List Nat)(iB:List l4)(W:List (Nat×Hint P))(bP:gi P f [] cO ho)(aa:dk P f)
  (aJ:List.range ops.size=List.range n++n::hQ) (Z:uO N ops=true) (h:QI bH ids ops n iB W env σ=some (f,cO,(List.range n).map λi=>(hintOf W i).exp)) (iP:∀r σ2,ho r σ2→r.refs (λd=>!([]:List Nat).contains d)=false∧σ2=[])
  (k:∀bE σ2,ho bE σ2→∃(eA:List (Nat×Hint P)) (dx:ai) (σ3:Y),QJ bH ids ops n hQ iB W eA env σ bE (qh dx) σ3.ids=some (dx,σ3,hQ.map λi=>(hintOf eA i).exp)∧aY ⟨P,N,ids⟩ y Q dx σ3):aY ⟨P,N,ids⟩ (.seq (.region id ops false) y) Q env σ:=by
 simp only[QI]at h;split at h
 ·cases h
 ·rename_i aA dF i2 u;split at h
  ·cases h
  ·rename_i o aj;split at h
   ·cases h
   ·rename_i bl;split at h
    ·rename_i c hop;split at h
     ·cases h
     ·rename_i mb ps aC;split at h
      ·cases h
      ·rename_i xb s7;simp only[Option.some.injEq,Prod.mk.injEq]at h;obtain⟨rfl,rfl,b3⟩:=h;have kQ:=u;simp only[IM]at u;split at u
       ·cases u
       ·rename_i e0 h5 hm;refine A.weak (z8 hm) (A.seq (A.DR a1 n hQ W aA dF aJ Z (by rw[u,b3]) aj bl (en.H7 (dB:=[]) [] hop aC s7 rfl rfl (Y.pR _) (λr σ2 aB=>?_) bP aa) (ai.pR _) rfl ?_))
        ·obtain⟨cF,cW⟩:=iP r σ2 aB;exact⟨cF,by rw[cW];rfl⟩
        ·rintro bE az ⟨σ2,aB,rfl⟩;obtain⟨cF,cW⟩:=iP bE σ2 aB;subst cW;obtain⟨eA,dx,σ3,bU,cG⟩:=k bE [] aB;rw[show([]:Y)++dF.minus (Y.ids [])=dF from Ga dF];simp only[QJ,kQ,aj]at bU;split at bU
         ·cases bU
         ·rename_i e2 dO aiF jR;split at bU
          ·cases bU
          ·rename_i b6 zn;split at bU
           ·cases bU
           ·rename_i s3 qU;simp only[Option.some.injEq,Prod.mk.injEq]at bU;obtain⟨rfl,rfl,jG⟩:=bU;exact⟨eA,e2,dO,by rw[jR,jG],A.weak (b8.of (C3 zn) (Y.oa qU).1) cG⟩
    ·cases h
noncomputable def Bd{α β:Type}(P:α→Prop)(K:α→Option β):Option β:=@dite _ (∃r,(∃a,P a)∧∀a,P a→K a=some r) (Classical.propDecidable _) (λh=>some (Classical.choose h)) (λ_=>none)
variable {α β:Type}{K:α→Option β}{r:β}
theorem VX{P:α→Prop}(h:Bd P K=some r):∀a,P a→K a=some r:=by
 unfold Bd at h;split at h
 ·rename_i u;have:=(Classical.choose_spec u).2;rw[Option.some.inj h]at this;exact this
 ·cases h
theorem YG{P:α→Prop}(h1:∃a,P a)(h:∀a,P a→K a=some r):Bd P K=some r:=by
 unfold Bd;have u:∃r,(∃a,P a)∧∀a,P a→K a=some r:=⟨r,h1,h⟩;rw[dif_pos u];obtain⟨a,aC⟩:=h1;have:=(Classical.choose_spec u).2 a aC;rw[h a aC]at this;exact this.symm
end
end Go.Proofs.YtmnbolcmepihlaaGreat
