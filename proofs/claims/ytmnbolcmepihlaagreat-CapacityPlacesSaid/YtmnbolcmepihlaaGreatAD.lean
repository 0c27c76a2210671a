/- Several texts in one. No condition but those that stand in each. -/
import Derived.Test.YtmnbolcmepihlaaGreatB7
import Derived.Test.YtmnbolcmepihlaaGreatA18
import Derived.Test.YtmnbolcmepihlaaGreatAC
namespace Go.Proofs.YtmnbolcmepihlaaGreat
set_option linter.all false
open Go
section
section
theorem aS.row{I I':Imm}(hle:aQ I I'){b:Nat}:∀(cs:List AV) (vs:List Value) (o:Nat),aS I cs vs→(∀j,j<vs.length→I' b ((o+j:Nat):Option Nat)=vs[j]?)→fc I' b cs o
 |[],_,_,_,_=>by simp[fc]
 |x::r,vs,o,h,hj=>by
  simp only[aS]at h;obtain⟨u,us,rfl,h1,h2⟩:=h;simp only[fc];refine⟨⟨u,?_,cM hle _ _ h1⟩,aS.row hle r us (o+1) h2 λj hj'=>?_⟩
  ·have:=hj 0 (by simp);simpa using this
  ·have:=hj (j+1) (by simp;omega);rw[show o+1+j=o+(j+1)by omega];simpa using this
theorem aU.lp{G:Gl}{env:Env}{σ:Sto}(t C:Nat){T:Nat}{cs:List AV}(ht:env.get t=.ptr C 0)(hC:σ.get C=some (.cells T cs))(hc:eO cs=true):aU G env σ ((t,.cV cs)::env) (σ.minus [C]):=by
 intro cx I β a w h h';have ho:=h.bB C _ hC;simp only[aj]at ho;have hp:=h' t;rw[ht]at hp;simp only[Rep]at hp;obtain⟨b,hb,hpv⟩:=hp;rcases ho with q|⟨b',arr,q1,q2,q3,q4,q5⟩
 ·rw[q]at hb;simp[blk]at hb
 ·have hbb:b'=b:=by rw[q1]at hb;simpa [blk]using hb
  subst hbb
  let I':Imm:=I.on λb1 o=>if b1=b' then arr[o]? else I b1 o
  have hle:aQ I I':=λb1 o v hv=>by
   cases o with
   |none=>exact hv
   |some o=>
   show(if b1=b' then arr[o]? else I b1 o)=some v;split
   ·rename_i hh;subst hh;rw[q4]at hv;cases hv
   ·exact hv
  have dR:∀b1 o,b1≠b'→I' b1 o=I b1 o:=λb1 o hne=>by
   cases o with
   |none=>rfl
   |some o=>
   show(if b1=b' then arr[o]? else I b1 o)=_;rw[if_neg hne]
  have hmin:∀d o,(σ.minus [C]).get d=some o→d≠C∧σ.get d=some o:=λd o hd=>by
   rw[Sto.dn]at hd;split at hd
   ·cases hd
   ·rename_i hm;exact⟨by simpa using hm,hd⟩
  have ajt:∀d,((σ.minus [C]).get d).isSome→(σ.get d).isSome:=λd hd=>by
   obtain⟨o,ho⟩:=Option.isSome_iff_exists.1 hd;rw[(hmin d o ho).2];rfl
  have hrow:fc I' b' cs 0:=aS.row hle cs arr.toList 0 (uT hc q3) λj hj=>by
   show(if b'=b' then arr[0+j]? else I b' (some (0+j)))=_;rw[if_pos rfl];simp
  refine⟨I',β,{good:=λb1 o v hv=>?_,dO:=h.dO,eX:=λb1 o v hv=>hle _ _ _ (h.eX _ _ _ hv),fU:=λb1 hb1 hn o=>?_,frame:=h.frame,size:=h.size,tape:=h.tape,os:=h.os,output:=h.output,drawn:=h.drawn,bB:=λd o hd=>?_,bQ:=λd d' hd hd'=>h.bQ d d' (ajt d hd) (ajt d' hd'),keep:=h.keep},λt'=>?_⟩
  ·change (if b1=b' then arr[o]? else I b1 o)=some v at hv
   split at hv
   ·rename_i hh;subst hh;simp only[World.cell?,q2];simpa using hv
   ·exact h.good b1 o v hv
  ·have hne:b1≠b':=λe=>by
    subst e;rcases q5 with q|q
    ·omega
    ·exact hn q
   rw[dR b1 o hne];exact h.fU b1 hb1 hn o
  ·obtain⟨hd1,hd2⟩:=hmin d o hd;refine(h.bB d o hd2).imm hle dR λb1 hb1 e'=>?_;subst e';exact h.bQ d C (by rw[hd2];rfl) (by rw[hC];rfl) hd1 b1 hb1 (cR hb)
  ·rw[Env.aK];split
   ·rename_i e;subst e
    simp only[Rep,aB];exact⟨b',0,hpv,hrow⟩
   ·exact(h'.mono hle (HLe.refl β)) t'
theorem yW{a:Act}{t:Nat}{v:Value}(h:t<a.tmps.size):(a.put (some t) v).eval (.tmp t)=v:=by
 simp[Act.put,Act.eval,Array.getD,h]
theorem wW{a:Act}{t t':Nat}{v:Value}(h:t≠t'):(a.put (some t) v).eval (.tmp t')=a.eval (.tmp t'):=by
 simp[Act.put,Act.eval,Array.getD_eq_getD_getElem?,Array.getElem?_setIfInBounds,h]
theorem rQ{P:Program}{ops:Array Oper}{Q:Exit→Act→World→Prop}{i:Nat}{l:List Nat}{a:Act}{w w':World}{o:Oper}{v:Value}(ho:ops[i]?=some o)(hg:o.guard=none)(hr:(execOp a.eval o).run P w=.ok (.value v) w')
  (k:wpOps P ops Q l (a.put o.dst v) w'):wpOps P ops Q (i::l) a w:=by
 have hw:Region.wanted o (yielded ops a.tmps)=true:=by simp[Region.wanted,hg]
 simp only[wpOps,ho,hw,if_true];exact .inl (gK.wp (Φ:=λv' w1=>v'=v∧w1=w') (by rw[hr];exact⟨rfl,rfl⟩) λv' w1 h=>by obtain⟨rfl,rfl⟩:=h;exact k)
theorem vl{α:Type}{sz:Nat}:∀(xs:List (List α)) (n:Nat),(∀e∈xs,e.length=sz)→(xs.take n).flatten=xs.flatten.take (n*sz)
 |[],_,_=>by simp
 |x::r,0,_=>by simp
 |x::r,n+1,h=>by
  have hx:=h x (by simp);rw[List.take_succ_cons,List.flatten_cons,List.flatten_cons,vl r n λe he=>h e (by simp[he]),Nat.add_mul,Nat.one_mul,Nat.add_comm (n*sz) sz,List.take_append,hx];rw[List.take_of_length_le (l:=x) (by omega),Nat.add_sub_cancel_left]
theorem ue(z:Array Value):∀m,(Builtin.zeroCells z m).toList=(List.replicate m z.toList).flatten:=by
 intro m;apply List.ext_getElem?;intro j;induction m generalizing j with
 |zero=>simp[Builtin.zeroCells]
 |succ m ih=>
  rw[List.replicate_succ,List.flatten_cons];unfold Builtin.zeroCells at ih ⊢;simp only[Array.toList_map,List.getElem?_map,Array.toList_range]at ih ⊢;by_cases hj:j<z.size
  ·rw[List.getElem?_append_left (by simpa using hj),List.getElem?_range (by rw[Nat.add_mul];omega)];simp[Nat.mod_eq_of_lt hj,hj]
  ·rw[List.getElem?_append_right (by simpa using hj)];have:=ih (j-z.size);simp only[Array.length_toList];rw[←this];by_cases hj2:j<(m+1)*z.size
   ·rw[List.getElem?_range hj2,List.getElem?_range (by rw[Nat.add_mul]at hj2;omega)];simp[←Nat.mod_eq_sub_mod (by omega:j≥z.size)]
   ·rw[List.getElem?_eq_none (by simp;omega),List.getElem?_eq_none (by simp;rw[Nat.add_mul]at hj2;omega)]
theorem abt{I:Imm}{zr:List AV}{zs:List Value}(h:aS I zr zs):∀m,aS I (List.replicate m zr).flatten (List.replicate m zs).flatten
 |0=>by simp[aS]
 |m+1=>by
  rw[List.replicate_succ,List.flatten_cons,List.replicate_succ,List.flatten_cons];exact(cS _ _ _).2 ⟨_,_,rfl,h,abt h m⟩
theorem agk{α:Type}(m:Nat)(l:List α):(List.replicate m l).flatten.length=m*l.length:=by
 induction m with
 |zero=>simp
 |succ m ih=>rw[List.replicate_succ,List.flatten_cons,List.length_append,ih,Nat.add_mul];omega
theorem an8{α:Type}(e:En α)(l:List α)(n:Nat)(z:α):(ml e l).take n++List.replicate ((ml e l).length-n) (e.enc z)=ml e (l.take n++List.replicate (l.length-n) z):=by simp[ml,List.map_take]
theorem aru{α:Type}(e:En α){l:List α}{i:Int}(h:0≤i∧i<(l.length:Int)):0≤i∧i<((ml e l).length:Int):=by rw[eF];exact h
theorem A.clr{G:Gl}{Q:Exit→Env→Sto→Prop}{env:Env}{σ:Sto}{id T:Nat}(ts ti t1 t2 t3 E sz d:Nat){o0 o1 o2 o3:Oper}{xs:List (List AV)}{i:Int}{z:Value}{zr:List AV}
  (h0:o0.op=.move (.tmp ts)∧o0.dst=some t1∧o0.guard=none) (h1:o1.op=.move (.tmp ti)∧o1.dst=some t2∧o1.guard=none)
  (h2:o2.op=.slice T (.tmp t1) (some (.tmp t2)) none none∧o2.dst=some t3∧o2.guard=none) (h3:o3.op=.call ⟨.builtin .clear,#[.tmp t3],#[T]⟩∧o3.dst=none∧o3.guard=none)
  (hN:t1<G.N∧t2<G.N∧t3<G.N) (hne:t1≠t2∧t1≠t3∧t2≠t3∧t1≠ti) (hT:SlS G.P T E sz) (hz:∀w,(zeroValue E).run G.P w=.ok z w) (hz1:∀v∈z.cells.toList,v.oneCell'=true) (hzr:∀I,aS I zr z.cells.toList) (hzl:z.cells.size=sz)
  (hs:env.get ts=.own d) (hi:env.get ti=.int .i64 i) (hd:σ.get d=some (.slice E sz xs 0 false)) (hir:0≤i∧i<xs.length) (he:env.get t1=.dM∧env.get t2=.dM∧env.get t3=.dM)
  {ys:List (List AV)} (hys:xs.take i.toNat++List.replicate (xs.length-i.toNat) zr=ys) (k:Q .normal env (σ.set d (.slice E sz ys 0 false))):af G (.region id #[o0,o1,o2,o3] false) Q env σ:=by
 subst hys;refine af.of λcx a w hr=>?_;obtain⟨I,β,hw,ht,hsz,hdf⟩:=hr;have e1:=ht ts;rw[hs]at e1;simp only[Rep]at e1
 obtain⟨e1,e1'⟩:=e1;have e2:=ht ti;rw[hi]at e2;have e2:=de e2
 have ho:=hw.bB d _ hd;simp only[aj]at ho;rcases ho with q|⟨q,q2,_⟩|⟨b,cap,arr,q1,q2,q3,q4,q5,q6,q7,q8,q9,q10,q11⟩
 ·rw[e1,q]at e1';cases e1'
 ·subst q2;simp at hir;omega
 obtain⟨n,rfl⟩:∃n:Nat,i=(n:Int):=⟨i.toNat,by omega⟩;have hn:n<xs.length:=by omega
 simp only[Int.toNat_natCast]at k ⊢;have e0:a.eval (.tmp ts)=.slice (some ⟨b,0,none⟩) xs.length cap:=by rw[←q1];exact e1
 have e2:a.eval (.tmp ti)=.int .i64 n:=e2;obtain⟨a1,ha1⟩:∃a1,a1=a.put (some t1) (.slice (some ⟨b,0,none⟩) xs.length cap):=⟨_,rfl⟩;obtain⟨a2,ha2⟩:∃a2,a2=a1.put (some t2) (.int .i64 n):=⟨_,rfl⟩;obtain⟨a3,ha3⟩:∃a3,a3=a2.put (some t3) (.slice (some ⟨b,n*sz,none⟩) (xs.length-n) (cap-n)):=⟨_,rfl⟩;have s1:a1.tmps.size=G.N:=by rw[ha1,size_put];exact hsz
 have s2:a2.tmps.size=G.N:=by rw[ha2,size_put];exact s1
 have s3:a3.tmps.size=G.N:=by rw[ha3,size_put];exact s2
 have v1:a2.eval (.tmp t1)=.slice (some ⟨b,0,none⟩) xs.length cap:=by rw[ha2,wW (Ne.symm hne.1),ha1,yW (by rw[hsz];exact hN.1)]
 have v2:a2.eval (.tmp t2)=.int .i64 n:=by rw[ha2,yW (by rw[s1];exact hN.2.1)]
 have v3:a3.eval (.tmp t3)=.slice (some ⟨b,n*sz,none⟩) (xs.length-n) (cap-n):=by rw[ha3,yW (by rw[s2];exact hN.2.2)]
 have hcap:cap≠n:=by omega
 have r2:(execOp a2.eval o2).run G.P w=.ok (.value (.slice (some ⟨b,n*sz,none⟩) (xs.length-n) (cap-n))) w:=by
  have w1:(Instr.sliceBounds true xs.length cap (some (.int .i64 n)) none none).run G.P w=.ok (n,xs.length,cap) w:=by
   have:=run_sliceBound (P:=G.P) (k:=.i64) (n:=(n:Int)) (y:=xs.length) (code:=.sliceB) (w:=w) ⟨by omega,by omega⟩;simp[Instr.sliceBounds,this]
  have w2:∀w,(underlying T).run G.P w=.ok (.slice E) w:=λw=>run_underlying hT.und w;simp only[execOp,h2.1,Instr.sliceAt,Instr.slice,v1,Option.map_some,v2,Sem.run_bind,w2,Result.andThen_ok,w1,hT.size,Sem.run_pure,Option.map_none];rw[if_neg hcap];simp only[Addr.add_lit,Option.map_some,Nat.zero_add]
 have an9:z.cells.toList.length=sz:=by rw[←hzl,Array.length_toList]
 obtain⟨A,hA⟩:∃A,A=(arr.toList.take (n*sz)++(Builtin.zeroCells z.cells (xs.length-n)).toList++arr.toList.drop (n*sz+(Builtin.zeroCells z.cells (xs.length-n)).toList.length)).toArray:=⟨_,rfl⟩;have ah1:(Builtin.zeroCells z.cells (xs.length-n)).toList.length=(xs.length-n)*sz:=by rw[ue,agk,an9]
 have hm1:n*sz+(xs.length-n)*sz=xs.length*sz:=by rw[←Nat.add_mul];congr 1;omega
 have hm2:xs.length*sz≤cap*sz:=Nat.mul_le_mul_right _ q2;have r3:(execOp a3.eval o3).run G.P w=.ok (.value (.tuple #[])) (w.setRow b A):=by
  have:=aaA (P:=G.P) w T E o3.type z hT.und hz b (n*sz) (xs.length-n) (cap-n) arr E q4 (by omega) (by rw[ah1,q5];omega) (abQ hz1 _);rw[←hA]at this;simp only[execOp,h3.1];have q:a3.tmps.getD t3 undef=_:=v3;simp[resolve,invoke,builtin,v3,this,Result.andThen]
 have main:o6 G cx env (σ.set d (.slice E sz (xs.take n++List.replicate (xs.length-n) zr) 0 false)) a3 (w.setRow b A):=by
  refine⟨I,β,?_,λt=>?_,s3,by rw[ha3,jZ,ha2,jZ,ha1,jZ];exact hdf⟩
  ·have hb:blk (β d)=some b:=by rw[q1];rfl
   refine hw.turn (d:=d) (Kept.setRow w b _) q11 (λx hx=>by rw[Sto.cB,if_neg hx]) (λx hx hs e=>hw.bQ x d hs (by rw[hd];rfl) hx b e (cR hb)) (aQ.refl I) (λ_ _ _=>rfl)
    (λo v hv=>by rw[q10 o (by omega)]at hv;cases hv) (hw.gN q4) (λ_ _=>rfl) (.inr rfl) (HLe.refl β) (.inl hb) λob hob=>?_
   rw[Sto.cB,if_pos rfl,hd]at hob;injection hob with hob
   subst hob;have hll:(xs.take n++List.replicate (xs.length-n) zr).length=xs.length:=by simp;omega
   simp only[aj,hll];have hzr2:zr.length=sz:=by rw[←an9];exact(dQ _ _ (hzr I)).symm
   refine .inr (.inr ⟨b,cap,A,q1,q2,q3,setRow_heap w b arr A E _ q4,?_,?_,?_,Nat.zero_le _,(λh=>by cases h),q10,q11⟩)
   ·rw[hA];simp only[List.size_toArray,List.length_append,List.length_take,List.length_drop,Array.length_toList,ah1,q5];omega
   ·rw[List.flatten_append,vl xs n q7];have hA2:A.toList.take (xs.length*sz)=(arr.toList.take (xs.length*sz)).take (n*sz)++(List.replicate (xs.length-n) z.cells.toList).flatten:=by
     rw[hA,←ue,List.take_take,Nat.min_eq_left (by omega)];refine List.take_left' ?_;rw[List.length_append,List.length_take,ah1,Array.length_toList,q5];omega
    rw[hA2];refine(cS _ _ _).2 ⟨_,_,rfl,?_,abt (hzr I) _⟩;have e5:xs.flatten=xs.flatten.take (n*sz)++xs.flatten.drop (n*sz):=(List.take_append_drop _ _).symm;rw[e5]at q6;obtain⟨us,ws,u1,u2,u3⟩:=(cS _ _ _).1 q6;have ul:us.length=n*sz:=by
     rw[dQ _ _ u2,List.length_take,jm xs q7];exact Nat.min_eq_left (by omega)
    rw[u1,List.take_left' ul];exact u2
   ·intro e he;rcases List.mem_append.1 he with he|he
    ·exact q7 e (List.mem_of_mem_take he)
    ·rw[(List.mem_replicate.1 he).2];exact hzr2
  ·by_cases c1:t=t1
   ·subst c1;rw[he.1];simp[Rep]
   by_cases c2:t=t2
   ·subst c2;rw[he.2.1];simp[Rep]
   by_cases c3:t=t3
   ·subst c3;rw[he.2.2];simp[Rep]
   have:a3.eval (.tmp t)=a.eval (.tmp t):=by rw[ha3,wW (Ne.symm c3),ha2,wW (Ne.symm c2),ha1,wW (Ne.symm c1)]
   have h5:=ht t
   change Rep I β (env.get t) (a.eval (.tmp t))at h5
   rw[←this]at h5;exact h5
 refine wp_region ?_;show wpOps G.P #[o0,o1,o2,o3] _ [0,1,2,3] a w;refine rQ (o:=o0) (v:=.slice (some ⟨b,0,none⟩) xs.length cap) (w':=w) rfl h0.2.2 (by simp only[execOp,h0.1];simp[e0]) ?_;rw[h0.2.1,←ha1];have v4:a1.eval (.tmp ti)=.int .i64 n:=by rw[ha1,wW hne.2.2.2];exact e2
 refine rQ (o:=o1) (v:=.int .i64 n) (w':=w) rfl h1.2.2 (by simp only[execOp,h1.1];simp[v4]) ?_;rw[h1.2.1,←ha2];refine rQ (o:=o2) rfl h2.2.2 r2 ?_;rw[h2.2.1,←ha3];refine rQ (o:=o3) rfl h3.2.2 r3 ?_;rw[h3.2.1];exact⟨env,_,main,k⟩
end
section
variable {G:Gl}{o:Oper}{ev:Operand→AV}{σ:Sto}
theorem acJ{I:Imm}:∀{xs:List AV} {vs:List Value} (n:Nat),aS I xs vs→aS I (xs.take n) (vs.take n)
 |[],vs,n,h=>by simp only[aS]at h;subst h;simp[aS]
 |x::r,vs,0,h=>by simp[aS]
 |x::r,vs,n+1,h=>by
  simp only[aS]at h;obtain⟨u,us,rfl,h1,h2⟩:=h;simp only[List.take_succ_cons,aS];exact⟨u,_,rfl,h1,acJ n h2⟩
theorem D.cutT{T E sz T' d d2:Nat}{x y:Operand}{xs:List (List AV)}{k:IntKind}{n:Int}(h:o.op=.slice T x none (some y) none)(hx:ev x=.own d)(hy:ev y=.int k n)(hd:σ.get d=some (.slice T' sz xs 0 false))(hT:SlS G.P T E sz)
  (hn:0≤n∧n≤xs.length) (hi:G.ids.contains d2=false) (hc:(σ.minus [d]).clean [d2].contains=true) :
  dU G o ev σ [d,d2] [d2] (λr σ'=>r=.own d2∧σ'=(d2,.slice T' sz (xs.take n.toNat) 0 false)::σ.minus [d]):=by
 intro cx I β w ρ hw hop;have hs1:=hop x (by simp[h,Op.operands]);rw[hx]at hs1;simp only[Rep]at hs1;obtain⟨hs1,hs2⟩:=hs1;have hs3:=hop y (by simp[h,Op.operands]);rw[hy]at hs3;have hs3:=de hs3;have hw1:aX G cx I β (σ.minus [d]) w:=hw.sub λx ob hx=>by rw[Sto.dn]at hx;split at hx<;>first|cases hx|exact hx
 have ho:=hw.bB d _ hd;simp only[aj]at ho;have run:∀(a:Option Addr) (c:Nat),ρ x=.slice a xs.length c→xs.length≤c→(execOp ρ o).run G.P w=.ok (.value (.slice (if c=0 then a else a.map (·.add (0*sz))) n.toNat c)) w:=by
  intro a c h1 h2;have e1:(Instr.sliceBounds true xs.length c none (some (.int k n)) none).run G.P w=.ok (0,n.toNat,c) w:=by
   have:=run_sliceBound (P:=G.P) (k:=k) (n:=n) (y:=c) (code:=.sliceAcap) (w:=w) ⟨hn.1,by omega⟩;simp[Instr.sliceBounds,this]
  have e2:∀w,(underlying T).run G.P w=.ok (.slice E) w:=λw=>run_underlying hT.und w;simp only[execOp,h,Instr.sliceAt,Instr.slice,h1,Sem.run_bind,e2,Result.andThen_ok,Option.map_some,Option.map_none,hs3,e1,hT.size,Sem.run_pure,Nat.sub_zero]
 have fin:∀(v':Value),(execOp ρ o).run G.P w=.ok (.value v') w→fP v'=true→(∀b∈bY v',b∈bY (β d))→aj cx I (en β d2 v') w d2 (.slice T' sz (xs.take n.toNat) 0 false)→
   gK G.P (λv w'=>∃(av:AV) (σ':Sto) (I':Imm) (β':Nat→Value),(av=.own d2∧σ'=(d2,br.slice T' sz (xs.take n.toNat) 0 false)::σ.minus [d])∧Rep I' β' av v∧aX G cx I' β' σ' w'∧aQ I I'∧(∀x,x∉[d2]→β' x=β x)∧(∀x,x∉[d,d2]→σ'.get x=σ.get x)) ((execOp ρ o).run G.P w):=by
  intro v' hrun hsl hbd hob;rw[hrun];refine⟨.own d2,_,I,en β d2 v',⟨rfl,rfl⟩,by simp only[Rep,bO,hsl,and_self],?_,aQ.refl I,λx hx=>cc β v' (by simpa using hx),λx hx=>?_⟩
  ·have hb0:∀x,[d2].contains x=false→en β d2 v' x=β x:=λx hx=>cc β v' (by simpa using hx);refine{hw1 with bB:=λx ob hx=>?_,bQ:=λx y hx hy hne b=>?_,keep:=λx hx=>?_}
   ·rw[Sto.aK]at hx;split at hx
    ·rename_i e;subst e;cases hx;exact hob
    ·obtain⟨c1,c2⟩:=Sto.cm hc x ob hx;exact(hw1.bB x ob hx).beta hb0 c1 c2
   ·have side:∀x,(Sto.get ((d2,br.slice T' sz (xs.take n.toNat) 0 false)::σ.minus [d]) x).isSome→x≠d2→(σ.get x).isSome∧x≠d:=λx hx hn=>by
     rw[Sto.aK,if_neg (Ne.symm hn),Sto.dn]at hx;split at hx
     ·cases hx
     ·rename_i hm;exact⟨hx,by simpa using hm⟩
    by_cases hx2:x=d2
    ·subst hx2;have hy2:y≠x:=λe=>hne e.symm;obtain⟨s1,s2⟩:=side y hy hy2;rw[bO,cc β v' hy2];intro e1 e2;exact hw.bQ y d s1 (by rw[hd];rfl) s2 b e2 (hbd b e1)
    ·obtain⟨s1,s2⟩:=side x hx hx2;rw[cc β v' hx2];by_cases hy2:y=d2
     ·subst hy2;rw[bO];intro e1 e2;exact hw.bQ x d s1 (by rw[hd];rfl) s2 b e1 (hbd b e2)
     ·obtain⟨t1,t2⟩:=side y hy hy2;rw[cc β v' hy2];exact hw.bQ x y s1 t1 hne b
   ·have:x≠d2:=λe=>by subst e;rw[←Bool.not_eq_true]at hi;exact hi (by simpa using hx)
    rw[cc β v' this];exact hw.keep x hx
  ·have hx:x≠d∧x≠d2:=by simpa using hx
   rw[Sto.aK,if_neg (Ne.symm hx.2),Sto.dn,if_neg (by simpa using hx.1)]
 rcases ho with q|⟨q,rfl,_⟩|⟨b,cap,arr,q1,q2,q3,q4,q5,q6,q7,q8,q9,q10,q11⟩
 ·rw[q]at hs1;rw[hs1]at hs2;simp[fP]at hs2
 ·have hl0:n=0:=by simp at hn;omega
  subst hl0;refine fin _ (run none 0 (by rw[hs1,q];rfl) (by simp)) rfl (by simp[bY,blk]) ?_;simp only[aj,bO];exact .inr (.inl ⟨by simp,by simp,trivial⟩)
 ·have hln:n.toNat≤xs.length:=by omega
  refine fin _ (run _ cap (by rw[hs1,q1]) q2) rfl ?_ ?_
  ·intro b' hb';rw[q1];split at hb'
   ·exact hb'
   ·simp only[Option.map_some,dY]at hb';exact hb'
  ·simp only[aj,bO];have hlen:(xs.take n.toNat).length=n.toNat:=by simp;omega
   refine .inr (.inr ⟨b,cap,arr,?_,by rw[hlen];omega,q3,q4,q5,?_,λe he=>q7 e (List.mem_of_mem_take he),Nat.zero_le _,λh=>by simp at h,q10,q11⟩)
   ·rw[hlen];split<;>simp[dY]
   ·rw[hlen,vl _ _ q7];have:=acJ (n.toNat*sz) q6
    rwa [List.take_take,Nat.min_eq_left (Nat.mul_le_mul_right _ hln)]at this
end
section
variable {P:Program}
def cuG(T0 d2 sz:Nat)(zs:List (List AV))(ids:List Nat)(op:Op)(env:Env)(σ:Sto):Option (Stp×Obs):=match op with
 |.slice T x none (some y) none=>(match env.evo x with
  |some (.own d)=>(match env.evo y with
   |some (.int k n)=>(match σ.get d with
    |some (.slice T' sz' xs 0 false)=>bif Nat.beq T T0&&Nat.beq sz' sz&&!ids.contains d2&&(σ.minus [d]).clean [d2].contains then some (.e [d,d2] [d2] (.own d2) ((d2,.slice T' sz' zs 0 false)::σ.minus [d]),([.lst false xs,.int .i64 n],[]))else none
    |_=>none)
   |_=>none)
  |_=>none)
 |_=>none
theorem aoa{T0 E d2 sz:Nat}{xs zs:List (List AV)}{n:Int}(hT:SlS P T0 E sz)(pf:Sl sz xs 0 n zs){o:Oper}{N:Nat}{ids:List Nat}{env:Env}{σ:Sto}{s:Stp}{ob:Obs}
  (h:cuG T0 d2 sz zs ids o.op env σ=some (s,ob)) (he:ob=([.lst false xs,.int .i64 n],[])):cz ⟨P,N,ids⟩ o env σ s:=by
 cases ho:o.op<;>rw[ho]at h
 case slice T x lo hi mx=>
  cases lo with
  |some m=>simp only[cuG]at h;cases h
  |none=>
  cases hi with
  |none=>simp only[cuG]at h;cases h
  |some y=>
  cases mx with
  |some m=>simp only[cuG]at h;cases h
  |none=>
   simp only[cuG]at h;split at h
   ·rename_i d hx;split at h
    ·rename_i k n' hy;split at h
     ·rename_i T' sz' xs' hd;generalize hb:(Nat.beq T T0&&_&&_&&_)=bb at h;cases bb with
      |false=>cases h
      |true=>
       simp only[cond_true]at h;simp only[Bool.and_eq_true,Bool.not_eq_true']at hb;obtain⟨⟨⟨b1,b2⟩,b3⟩,b4⟩:=hb;have:=Nat.eq_of_beq_eq_true b1;subst this;have:=Nat.eq_of_beq_eq_true b2;subst this;cases h;simp only[Prod.mk.injEq,List.cons.injEq,AV.lst.injEq,AV.int.injEq,and_true,true_and]at he;obtain⟨rfl,rfl⟩:=he;obtain⟨p1,p2,p3⟩:=pf;refine⟨?_,by simpa using b3⟩;have hD:=D.cutT (G:=⟨P,N,ids⟩) (d2:=d2) ho (Env.aG hx) (Env.aG hy) hd hT ⟨by omega,p2.2.2⟩ b3 b4;rw[←p3];simpa using hD
     ·cases h
    ·cases h
   ·cases h
 all_goals (simp only[cuG]at h;cases h)
def hcB{T0 E sz:Nat}(d2:Nat){xs zs:List (List AV)}{n:Int}(hT:SlS P T0 E sz)(pf:Sl sz xs 0 n zs):Hint P:=
 .gs true ([.lst false xs,.int .i64 n],[]) (λids=>cuG T0 d2 sz zs ids) λ_ _ _ _ _ _ _ h he=>aoa hT pf h he
theorem Yields.cfn{G:Gl}{o:Oper}{ev:Operand→AV}{σ:Sto}{mat R:List Nat}{f:Nat}{l:List AV}(h:Yields G o ev σ mat R (.fn f l))(hc:eO l=true):Yields G o ev σ mat R (.cfn f l):=λσ' cx I β w ρ hR hw hm hop=>by
 have:=h σ' cx I β w ρ hR hw hm hop;generalize (execOp ρ o).run G.P w=r at this
 have key:∀v w',(∃I' β',Rep I' β' (.fn f l) v∧aX G cx I' β' σ' w'∧aQ I I'∧(∀d,d∉mat→β' d=β d))→∃I' β',Rep I' β' (.cfn f l) v∧aX G cx I' β' σ' w'∧aQ I I'∧(∀d,d∉mat→β' d=β d):=λv w' ⟨I',β',h1,h2⟩=>by
  simp only[Rep]at h1;obtain⟨vs,rfl,h3⟩:=h1;exact⟨I',β',by simp only[Rep,aB];exact⟨vs,rfl,uT hc h3⟩,h2⟩
 cases r with
 |halt x w'=>exact this.elim
 |ok n w'=>cases n with
  |value v=>exact key _ _ this
  |skip=>exact key _ _ this
  |enter f args=>exact Calls.mono this λe w'' ⟨v,h1,h2⟩=>⟨v,h1,key _ _ h2⟩
  |_=>exact this.elim
def cfE(op:Op)(env:Env):Option (Stp×Obs):=match op with
 |.makeFunc (.func f) first cap=>match first.toList with
  |[]=>(match env.nk cap.toList with
   |some l=>bif eO l then some (.y [] (.cfn f l),([],[]))else none
   |_=>none)
  |_=>none
 |_=>none
theorem aob{o:Oper}{N:Nat}{ids:List Nat}{env:Env}{σ:Sto}{s:Stp}{ob:Obs}(h:cfE o.op env=some (s,ob)):cz ⟨P,N,ids⟩ o env σ s:=by
 unfold cfE at h;split at h
 ·rename_i f first cap ho;split at h
  ·rename_i hf;split at h
   ·rename_i l hl;cases hc:eO l with
    |false=>rw[hc]at h;cases h
    |true=>
     rw[hc]at h;cases h
     have e1:first=#[]:=by simpa using congrArg List.toArray hf
     subst e1;exact Yields.cfn (Z.makeFunc ho hl) hc
   ·cases h
  ·cases h
 ·cases h
def hcf:Hint P:=.gs false ([],[]) (λ_ op env _=>cfE op env) λ_ _ _ _ _ _ _ h _=>aob h
end
end
section
section
variable {G:Gl}{σ:Sto}{o:Oper}{ev:Operand→AV}
theorem agl{cx:Cx}{I:Imm}{β:Nat→Value}{w:World}(hw:aX G cx I β σ w){d T t:Nat}{xs:List (List AV)}(hd:σ.get d=some (.slm T xs t))(hn:β d≠.nilFunc):
  ∃b cap arr,β d=.slice (some ⟨b,0,none⟩) (xs.length+1) cap∧xs.length+1≤cap∧cap≤maxLen∧w.heap[b]?=some (.cells arr T (0,0))∧arr.size=cap∧
    aS I xs.flatten (arr.toList.take xs.length)∧(∀e∈xs,e.length=1)∧arr[xs.length]?=some (β t)∧β t≠.nilFunc∧(∀o:Nat,I b o=none)∧Place cx b:=by
 have ho:=hw.bB d _ hd;simp only[aj,hn,false_or]at ho;exact ho
theorem Y.aoc{T E d T0 t:Nat}{xs:List (List AV)}{x y:Operand}{k:IntKind}{i:Int}(h:o.op=.indexAddr T x y)(hx:ev x=.own d)(hy:ev y=.int k i)(hd:σ.get d=some (.slm T0 xs t))(hT:SlS G.P T E 1)
  (hi:0≤i∧i<(xs.length:Int)+1):Yields G o ev σ [] [d] (.ptr d i.toNat):=
 .pure λσ' cx I β w ρ hR hw hop=>by
  have h1:=hop x (by simp[h,Op.operands]);rw[hx]at h1
  have h2:=hop y (by simp[h,Op.operands]);rw[hy]at h2;have h2:=de h2
  simp only[Rep]at h1;obtain⟨h1,hs⟩:=h1;have hdn:β d≠.nilFunc:=λe=>by rw[h1,e]at hs;simp[fP]at hs
  obtain⟨b,cap,arr,q1,q2,q3,q4,_⟩:=agl hw (by rw[hR d (by simp)];exact hd) hdn;refine⟨.pointer (some ⟨b,i.toNat,none⟩),?_,by simp only[Rep];exact⟨b,by rw[q1];rfl,rfl⟩⟩;have e1:∀w,(underlying T).run G.P w=.ok (.slice E) w:=λw=>by simp[underlying,program,Sem.run,hT.und]
  rw[q1]at h1;have hi':0≤i∧i<(xs.length:Int)+1:=hi;have hi2:¬((xs.length:Int)+1≤i):=by omega
  simp[hi2,execOp,h,h1,h2,Instr.indexAt,asIntOf,e1,hi',hT.size,dY]
theorem acK{cx:Cx}{I:Imm}{β:Nat→Value}{w:World}(hw:aX G cx I β σ w){d T t p:Nat}{xs:List (List AV)}(hd:σ.get d=some (.slm T xs t)){v:Value}(h1:Rep I β (.ptr d p) v):
  ∃b arr,v=.pointer (some ⟨b,p,none⟩)∧w.heap[b]?=some (.cells arr T (0,0))∧aS I xs.flatten (arr.toList.take xs.length)∧(∀e∈xs,e.length=1)∧arr[xs.length]?=some (β t)∧β t≠.nilFunc∧xs.length+1≤arr.size:=by
 simp only[Rep]at h1;obtain⟨b,h1,h2⟩:=h1;have hdn:β d≠.nilFunc:=λe=>by rw[e]at h1;cases h1
 obtain⟨b',cap,arr,q1,q2,q3,q4,q5,q6,q7,q8,q9,q10,q11⟩:=agl hw hd hdn;have hbb:b'=b:=by rw[q1]at h1;simpa [blk]using h1
 subst hbb;exact⟨b',arr,h2,q4,q6,q7,q8,q9,by omega⟩
def br.aeU:br→Bool
 |.map ..=>true
 |.dI ..=>true
 |_=>false
theorem Y.aod{T d p T0 t:Nat}{xs:List (List AV)}{x:Operand}{om:br}(h:o.op=.load T x)(hx:ev x=.ptr d p)(hd:σ.get d=some (.slm T0 xs t))(hp:p=xs.length)(ht:σ.get t=some om)(hm:om.aeU=true)(hT:TyS G.P T 1 false):
  Yields G o ev σ [] [d,t] (.bX t):=
 .pure λσ' cx I β w ρ hR hw hop=>by
  have h1:=hop x (by simp[h,Op.operands]);rw[hx]at h1
  obtain⟨b,arr,h2,q4,q6,q7,q8,q9,q10⟩:=acK hw (by rw[hR d (by simp)];exact hd) h1
  have hcell:∀j,j<1→∃v,[β t][j]?=some v∧w.cell? ⟨b,p+j,none⟩=some v:=λj hj=>by
   have:j=0:=by omega
   subst this;exact⟨β t,rfl,by subst hp;simp[World.cell?,q4,q8]⟩
  have hl:=iy hT (vs:=[β t]) hcell (λ_=>by omega);refine⟨β t,by simp[execOp,h,h2,Instr.loadAt,Instr.sureAddr,hl],?_⟩;simp only[Rep,true_and];have ho:=hw.bB t om (by rw[hR t (by simp)];exact ht);cases om<;>simp only[br.aeU,reduceCtorEq]at hm
  ·simp only[aj,q9,false_or]at ho;obtain⟨r,_,_,e,_⟩:=ho;rw[e];rfl
  ·simp only[aj,q9,false_or]at ho;obtain⟨r,e,_⟩:=ho;rw[e];rfl
theorem acL:∀{xs:List (List AV)} {p:Nat} {a:AV},(∀e∈xs,e.length=1)→xs[p]?=some [a]→xs.flatten[p]?=some a
 |[],_,_,_,h=>by simp at h
 |e::r,p,a,hl,h=>by
  obtain⟨c,rfl⟩:∃c,e=[c]:=List.length_eq_one_iff.1 (hl e (by simp));cases p with
  |zero=>simp at h;subst h;rfl
  |succ p=>simp only[List.flatten_cons,List.singleton_append,List.getElem?_cons_succ]at h ⊢;exact acL (λe he=>hl e (by simp[he])) h
theorem Y.aoe{T d p T0 t:Nat}{xs:List (List AV)}{x:Operand}{a:AV}(h:o.op=.load T x)(hx:ev x=.ptr d p)(hd:σ.get d=some (.slm T0 xs t))(hp:xs[p]?=some [a])(hT:TyS G.P T 1 false):
  Yields G o ev σ [] [d] a:=
 .pure λσ' cx I β w ρ hR hw hop=>by
  have h1:=hop x (by simp[h,Op.operands]);rw[hx]at h1
  obtain⟨b,arr,h2,q4,q6,q7,q8,q9,q10⟩:=acK hw (by rw[hR d (by simp)];exact hd) h1;obtain⟨v,g1,g2⟩:=uN (β:=β) (aS.rep β _ _ q6) (acL q7 hp);have hpl:p<xs.length:=(List.getElem?_eq_some_iff.1 hp).1;have g3:arr[p]?=some v:=by
   rw[List.getElem?_take,if_pos hpl]at g1;simpa using g1
  have hcell:∀j,j<1→∃v',[v][j]?=some v'∧w.cell? ⟨b,p+j,none⟩=some v':=λj hj=>by
   have:j=0:=by omega
   subst this;exact⟨v,rfl,by simp[World.cell?,q4,g3]⟩
  have hl:=iy hT (vs:=[v]) hcell (λ_=>by omega);exact⟨v,by simp[execOp,h,h2,Instr.loadAt,Instr.sureAddr,hl],g2⟩
theorem D.alC{s x:Operand}{T E bytes d d2 dc t T' Tc:Nat}{fz:Bool}{xs:List (List AV)}(h:o.op=.call ⟨.builtin .append,#[s,x],#[T,T]⟩)(hs:ev s=.own d)(hd:σ.get d=some (.slice T' 1 xs 0 fz))(hx:ev x=.hnd (.csl 1) dc)(hdc:σ.get dc=some (.cells Tc [.bX t]))(hT:gL G.P T E 1 bytes)(hE:T'=E)
  (hb:(xs.length+1)*bytes≤140737488355328) (h63:xs.length+1≤maxLen) (hi:G.ids.contains d2=false)
  (hc:(σ.minus [d]).clean [d2].contains=true) (hdd:dc≠d) (htd:t≠d) :
  dU G o ev σ [d,d2] [d2] (λr σ'=>r=.own d2∧σ'=(d2,.slm T' xs t)::σ.minus [d]):=by
 subst hE;intro cx I β w ρ hw hop;have hs1:=hop s (by simp[h,Op.operands,Call.operands]);rw[hs]at hs1;simp only[Rep]at hs1;obtain⟨hs1,hs2⟩:=hs1;have hx1:=hop x (by simp[h,Op.operands,Call.operands]);rw[hx]at hx1;simp only[Rep]at hx1;obtain⟨bc,hx0,hx1⟩:=hx1;have hx1:ρ x=.slice (some ⟨bc,0,none⟩) 1 1:=hx1;obtain⟨i,z,hi1,hz1,hz2,hz3,hz4⟩:=hT.info;have hdc1:(σ.minus [d]).get dc=some (.cells Tc [.bX t]):=by rw[Sto.dn,if_neg (by simpa using hdd)];exact hdc
 have aof:t≠d2:=λe=>by
  have:=(Sto.cm hc dc _ hdc1).2;simp[fV,jX,AV.refs,e]at this
 have hcc:w.cell? ⟨bc,0,none⟩=some (β t)∧jS (β t)=true:=by
  have hcn:β dc≠.nilFunc:=λe=>by rw[e]at hx0;cases hx0
  have ho:=hw.bB dc _ hdc;simp only[aj,hcn,false_or]at ho;obtain⟨b,arr,q1,q2,q3,_⟩:=ho;have:b=bc:=by rw[q1]at hx0;simpa [blk]using hx0
  subst this;simp only[aW,Rep]at q3;obtain⟨u,us,e1,⟨e2,e3⟩,e4⟩:=q3;subst e4;have:arr[0]?=some u:=by
   have:arr.toList[0]?=some u:=by rw[e1];rfl
   simpa using this
  rw[e2]at this e3;exact⟨by simp[World.cell?,q2,this],e3⟩
 have htn:β t≠.nilFunc:=λe=>by rw[e]at hcc;simp[jS]at hcc
 have hone:∀v∈[β t],v.oneCell'=true:=λv hv=>by
  rw[List.mem_singleton.1 hv];have:=hcc.2;cases hbt:β t<;>rw[hbt]at this<;>simp[jS]at this<;>rfl
 have hsm:xs.length+1≤9223372036854775807:=by simp only[maxLen]at h63;omega
 have hw1:aX G cx I β (σ.minus [d]) w:=hw.sub λx ob hx=>by rw[Sto.dn]at hx;split at hx<;>first|cases hx|exact hx
 have hw2:=hw1.ov (mat:=[d2]) (σ2:=(d2,.slm T' xs t)::σ.minus [d]) (env:=[]) ⟨λx hx=>by rw[Sto.aK,if_neg (λe=>hx (by simp[e]))],λx hx=>by simp at hx;subst hx;simpa using hi,rfl,hc,λx hx dm n h=>by simp at hx;subst hx;rw[Sto.aK,if_pos rfl]at h;cases h⟩;have dN:∀x,x≠d2→dP β [d2] x=β x:=λx hx=>by simp[dP,hx]
 have fin:∀(v':Value) (w':World) (b:Nat),(execOp ρ o).run G.P w=.ok (.value v') w'→fP v'=true→Kept w w' b→Place cx b→(∀x,((σ.minus [d]).get x).isSome→b∉bY (β x))→
   (∀(o:Nat) v,I b o=some v→w'.cell? ⟨b,o,none⟩=some v)→I b none=none→(blk v'=some b∨bY v'=[])→aj cx I (en β d2 v') w' d2 (.slm T' xs t)→
   gK G.P (λv w'=>∃(av:AV) (σ':Sto) (I':Imm) (β':Nat→Value),(av=.own d2∧σ'=(d2,br.slm T' xs t)::σ.minus [d])∧Rep I' β' av v∧aX G cx I' β' σ' w'∧aQ I I'∧(∀x,x∉[d2]→β' x=β x)∧(∀x,x∉[d,d2]→σ'.get x=σ.get x)) ((execOp ρ o).run G.P w):=by
  intro v' w' b hrun hsl hk hp hfree uO hnm hbd hob;rw[hrun];refine⟨.own d2,_,I,en β d2 v',⟨rfl,rfl⟩,by simp only[Rep,bO,hsl,and_self],?_,aQ.refl I,λx hx=>cc β v' (by simpa using hx),λx hx=>?_⟩
  ·refine hw2.turn (d:=d2) hk hp (λ_ _=>rfl) (λx hx hsm e=>?_) (aQ.refl I) (λ_ _ _=>rfl) uO hnm (λx hx=>by rw[cc β v' hx,dN x hx]) (.inl (by simpa using hi)) (λx=>?_) (by rw[bO];exact hbd) (λob mb=>?_)
   ·rw[Sto.aK,if_neg (Ne.symm hx)]at hsm;rw[dN x hx]at e;exact hfree x hsm e
   ·by_cases hx:x=d2
    ·left;simp[dP,hx]
    ·right;rw[cc β v' hx,dN x hx]
   ·rw[Sto.aK,if_pos rfl]at mb;injection mb with mb
    subst mb;exact hob
  ·have hx:x≠d∧x≠d2:=by simpa using hx
   rw[Sto.aK,if_neg (Ne.symm hx.2),Sto.dn,if_neg (by simpa using hx.1)]
 have other:∀b,blk (β d)=some b→∀x,((σ.minus [d]).get x).isSome→b∉bY (β x):=λb hbd x hx e=>by
  rw[Sto.dn]at hx;split at hx
  ·cases hx
  ·rename_i hxd;exact hw.bQ x d hx (by rw[hd];rfl) (by simpa using hxd) b e (cR hbd)
 have fresh:∀x,((σ.minus [d]).get x).isSome→w.heap.size∉bY (β x):=λx hx e=>by
  obtain⟨ob,hx⟩:=Option.isSome_iff_exists.1 hx;exact absurd (hw1.lE hx e) (by omega)
 have fnm:I w.heap.size none=none:=hw.ct (Nat.le_refl _) none;have s7:∀(w':World) (o:Nat) v,I w.heap.size o=some v→w'.cell? ⟨w.heap.size,o,none⟩=some v:=λw' o v hv=>by rw[hw.ct (Nat.le_refl _)]at hv;cases hv
 have mB:∀old,old<xs.length+1→xs.length+1≤grownCap w (xs.length+1) old T'∧grownCap w (xs.length+1) old T'≤maxLen:=λold _=>⟨grownCap_ge _ _ _ _,grownCap_le_maxLen _ _ _ _ h63⟩
 have hcells:∀j u,[β t][j]?=some u→w.cell? ((⟨bc,0,none⟩:Addr).add j)=some u:=λj u hu=>by
  cases j with
  |zero=>simp at hu;subst hu;rw[dY];exact hcc.1
  |succ j=>simp at hu
 have nY:∀(olds:List Value) (cap:Nat),aS I xs.flatten olds→olds.length=xs.length→(∀e∈xs,e.length=1)→xs.length+1≤cap→cap≤maxLen→
   aj cx I (en β d2 (.slice (some ⟨w.heap.size,0,none⟩) (xs.length+1) cap)) (w.drew.alloc (.cells (olds.toArray++[β t].toArray++Builtin.zeroCells z.cells (cap-(xs.length+1))) T')) d2 (.slm T' xs t):=by
  intro olds cap ho1 ho2 ho3 hc1 hc2;simp only[aj,bO,cc β _ aof];refine .inr ⟨w.heap.size,cap,_,rfl,hc1,hc2,heap_alloc_new w.drew _,?_,?_,ho3,?_,htn,λo=>hw.ct (Nat.le_refl _) o,.inl hw.size⟩
  ·simp only[Array.size_append,List.size_toArray,size_zeroCells,hz4,ho2,List.length_cons,List.length_nil,Nat.mul_one];omega
  ·have:(olds.toArray++[β t].toArray++Builtin.zeroCells z.cells (cap-(xs.length+1))).toList.take xs.length=olds:=by
    simp only[Array.toList_append,List.append_assoc];rw[←ho2];exact List.take_left
   rw[this];exact ho1
  ·have:(olds.toArray++[β t].toArray++Builtin.zeroCells z.cells (cap-(xs.length+1))).toList[xs.length]?=some (β t):=by
    simp only[Array.toList_append,List.append_assoc];rw[List.getElem?_append_right (by simp[ho2])];simp[ho2]
   rw[←Array.getElem?_toList];exact this
 have mC:∀ob,Kept w (w.drew.alloc ob) w.heap.size:=λob=>(Kept.alloc w.drew ob).drew;have ho:=hw.bB d _ hd;simp only[aj,Nat.mul_one]at ho;rcases ho with q|⟨q,rfl,-⟩|⟨b,cap,arr,q1,q2,q3,q4,q5,q6,q7,q8,q9,q10,q11⟩
 ·rw[q]at hs1;rw[hs1]at hs2;simp[fP]at hs2
 ·have hr:=run_append_nil (P:=G.P) w T o.type T' i z hT.und hi1 hz1 ⟨bc,0,none⟩ 1 1 [β t] (by rw[hz2];rfl) hcells (by omega) (by omega) (by simp at hb;rw[hz3];omega);obtain⟨g1,g2⟩:=mB 0 (by simp);simp only[List.length_nil,Nat.zero_add]at g1 g2;refine fin _ _ w.heap.size (dz h (by rw[hs1,hx1,q];exact hr)) rfl (mC _) (.inl hw.size) fresh (s7 _) fnm (.inl rfl) ?_;have:=nY [] (grownCap w 1 0 T') rfl (by simp) (by simp) (by simpa using g1) g2;simpa using this
 ·have hbd:blk (β d)=some b:=by rw[q1];rfl
  have hlt:=bF q4;have hal:arr.toList.length=cap:=by simpa using q5
  have hxl:xs.length≤arr.toList.length:=by omega
  have hnone:∀o:Nat,I b o=none:=λo=>q10 o (by omega);by_cases hroom:xs.length+1≤cap
  ·have hr:=run_append_room (P:=G.P) w T o.type T' i hT.und hi1 b xs.length cap arr q4 ⟨bc,0,none⟩ 1 1 [β t] (by rw[hz2];rfl) hcells hone hroom (by rw[hz2,Nat.mul_one,q5];exact hroom);rw[hz2,Nat.mul_one]at hr;refine fin _ _ b (dz h (by rw[hs1,hx1,q1];exact hr)) rfl (Kept.setRow w b _) q11 (other b hbd) (λo v hv=>by rw[hnone o]at hv;cases hv) (hw.gN q4) (.inl rfl) ?_;have hh:=setRow_heap w b arr (arr.toList.take xs.length++[β t]++arr.toList.drop (xs.length+[β t].length)).toArray T' (0,0) q4;simp only[aj,bO,cc β _ aof];refine .inr ⟨b,cap,_,rfl,hroom,q3,hh,?_,?_,q7,?_,htn,hnone,q11⟩
   ·simp;omega
   ·have:(arr.toList.take xs.length++[β t]++arr.toList.drop (xs.length+[β t].length)).take xs.length=arr.toList.take xs.length:=by
     rw[List.append_assoc,List.take_append_of_le_length (by rw[List.length_take];omega),List.take_take,Nat.min_self]
    simp only at this ⊢;rw[this];exact q6
   ·have:(arr.toList.take xs.length++[β t]++arr.toList.drop (xs.length+[β t].length))[xs.length]?=some (β t):=by
     rw[List.append_assoc,List.getElem?_append_right (by rw[List.length_take];omega)];rw[List.length_take,Nat.min_eq_left hxl,Nat.sub_self];rfl
    rw[←Array.getElem?_toList];exact this
  ·have hol:(arr.toList.take xs.length).length=xs.length:=by rw[List.length_take,Nat.min_eq_left hxl]
   have holds:∀j v,(arr.toList.take xs.length)[j]?=some v→w.cell? ((⟨b,0,none⟩:Addr).add j)=some v:=λj v hv=>by
    rw[dY];rw[List.getElem?_take]at hv;split at hv
    ·simp only[World.cell?,q4,Nat.zero_add];simpa using hv
    ·cases hv
   have hr:=run_append_grow (P:=G.P) w T o.type T' i z hT.und hi1 hz1 ⟨b,0,none⟩ xs.length cap _ (by rw[hz2,Nat.mul_one];exact hol) holds ⟨bc,0,none⟩ 1 1 [β t] (by rw[hz2];rfl) hcells (by omega) (by omega) (growslice_fits (by omega) (by rw[hz3];exact hb));obtain⟨g1,g2⟩:=mB cap (by omega);exact fin _ _ w.heap.size (dz h (by rw[hs1,hx1,q1];exact hr)) rfl (mC _) (.inl hw.size) fresh (s7 _) fnm (.inl rfl) (nY _ _ q6 hol q7 g1 g2)
end
end
section
theorem aU.aog{G:Gl}{env:Env}{σ:Sto}(d t:Nat){T K E:Nat}{xs:List (List AV)}{aL:List (AV×AV)}(hd:σ.get d=some (.slm T xs t))(ht:σ.get t=some (.jA K E aL)):
  aU G env σ env (σ.set d (.slice T 1 (xs++[[.mpf aL]]) 0 false)):=λcx I β a w h h'=>by
 refine⟨I,β,yV hd h ?_,h'⟩;have ho:=h.bB d _ hd;have hm:=h.bB t _ ht;simp only[aj]at ho hm ⊢;rcases ho with q|⟨b,cap,arr,q1,q2,q3,q4,q5,q6,q7,q8,q9,q10,q11⟩
 ·exact .inl q
 ·obtain⟨r,es,clock,p1,p2,p3,p4,p5⟩:=hm.resolve_left q9;refine .inr (.inr ⟨b,cap,arr,by rw[q1];simp,by simpa using q2,q3,q4,by omega,?_,λe he=>?_,by simp,by simp,λo _=>q10 o,q11⟩)
  ·have hlt:xs.length<arr.toList.length:=by simpa using (Array.getElem?_eq_some_iff.1 q8).1
   have e1:arr.toList[xs.length]?=some (β t):=by simpa using q8
   have e2:arr.toList.take ((xs++[[AV.mpf aL]]).length*1)=arr.toList.take xs.length++[β t]:=by
    rw[List.length_append,List.length_singleton,Nat.mul_one,List.take_add_one,e1];rfl
   rw[e2,List.flatten_append];refine(cS _ _ _).2 ⟨_,_,rfl,q6,?_⟩;simp only[List.flatten_cons,List.flatten_nil,List.append_nil,aS,aB];exact⟨β t,[],rfl,⟨r,es,clock,p1,p2,p3,p5⟩,rfl⟩
  ·rcases List.mem_append.1 he with he|he
   ·exact q7 e he
   ·rw[List.mem_singleton.1 he];rfl
def meB(k:IntKind)(n:Int)(es:Array MapEntry)(clock:Nat):Nat:=match Instr.findNow (.int k) (.int k n) es.toList 0 with
 |some (some (j,_))=>((es[j]?).map (·.born)).getD 0
 |_=>clock
def gR(k:IntKind)(n:Int)(z:Value)(es:Array MapEntry)(clock:Nat):Array MapEntry:=match Instr.findNow (.int k) (.int k n) es.toList 0 with
 |some (some _)=>es
 |_=>es.push ⟨.int k n,z,clock⟩
def qo(k:IntKind)(n:Int)(es:Array MapEntry)(clock:Nat):Nat:=match Instr.findNow (.int k) (.int k n) es.toList 0 with
 |some (some _)=>clock
 |_=>clock+1
theorem uf(kd:TypeDesc)(key:Value)(B:List MapEntry):∀(A:List MapEntry) (i:Nat),Instr.findNow kd key A i=some none→Instr.findNow kd key (A++B) i=Instr.findNow kd key B (i+A.length)
 |[],i,_=>rfl
 |e::A,i,h=>by
  simp only[Instr.findNow,List.cons_append]at h ⊢;cases hs:Instr.sameNow kd key e.key with
  |none=>rw[hs]at h;cases h
  |some b=>
   cases b with
   |true=>rw[hs]at h;cases h
   |false=>
    rw[hs]at h;simp only at h ⊢;rw[uf kd key B A (i+1) h,List.length_cons];congr 1;omega
theorem adL{α:Type}{l:Array α}{j:Nat}{f:α→α}(h:∀e,l[j]?=some e→f e=e):l.modify j f=l:=by
 apply Array.ext_getElem?;intro i;rw[Array.getElem?_modify];split
 ·rename_i hj;subst hj;cases he:l[j]? with
  |none=>rfl
  |some e=>simp[h e he]
 ·rfl
theorem qM{α:Type}(n:Int)(v:α):∀l:List (Int×α),aY (bN l n v) n=some v
 |[]=>by simp[bN,aY]
 |p::r=>by
  unfold bN;split
  ·simp[aY]
  ·rename_i hp;have:=qM n v r;unfold aY at this ⊢;rw[List.find?_cons_of_neg (by simpa using hp)];exact this
theorem abu{α:Type}{n:Int}:∀{l:List (Int×α)} {v:α},aY l n=some v→bN l n v=l
 |[],_,h=>by simp[aY]at h
 |p::r,v,h=>by
  unfold bN;unfold aY at h;split
  ·rename_i hp;rw[List.find?_cons_of_pos (by simpa using hp)]at h;simp at h;obtain⟨p1,p2⟩:=p;simp only at hp h;rw[hp,h]
  ·rename_i hp;rw[List.find?_cons_of_neg (by simpa using hp)]at h;rw[abu (l:=r) h]
theorem wX{α:Type}(n:Int)(u v:α):∀l:List (Int×α),bN (bN l n u) n v=bN l n v
 |[]=>by simp[bN]
 |p::r=>by
  by_cases hp:p.1=n
  ·simp[bN,hp]
  ·simp[bN,hp,wX n u v r]
section
variable {G:Gl}{σ:Sto}{o:Oper}{ev:Operand→AV}
theorem D.agm{α:Type}{T K E d clock:Nat}{k:IntKind}{x y:Operand}{n:Int}{es:Array MapEntry}{z:Value}(l:List (Int×α))(enc:α→AV)(za:α)(h:o.op=.mapEntry T x y)(hx:ev x=.bX d)(hy:ev y=.int k n)
  (hd:σ.get d=some (.dI es clock K E (bU k enc l))) (hT:jD G.P T K E k) (hz:∀w,(zeroValue E).run G.P w=.ok z w) (hzc:∀I,aB I (enc za) z) :
  dU G o ev σ [d] [] (λr σ'=>r=.tup [.dM,.int .i64 (meB k n es clock:Int)]∧σ'=σ.set d (.dI (gR k n z es clock) (qo k n es clock) K E (bU k enc (bN l n ((aY l n).getD za))))):=by
 intro cx I β w ρ hw hop;have h1:=hop x (by simp[h,Op.operands]);rw[hx]at h1
 have h2:=hop y (by simp[h,Op.operands]);rw[hy]at h2;have h2:=de h2
 simp only[Rep]at h1;obtain⟨h1,h1m⟩:=h1;have hdn:β d≠.nilFunc:=λe=>by rw[h1,e]at h1m;simp[jS]at h1m
 have ho:=hw.bB d _ hd;simp only[aj,hdn,false_or]at ho;obtain⟨r,q1,q2,q3,q4,q5,q6⟩:=ho;have e1:∀w,(underlying T).run G.P w=.ok (.map K E) w:=λw=>by simp[underlying,program,Sem.run,hT.und]
 have e2:∀w,(underlying K).run G.P w=.ok (.int k) w:=λw=>by simp[underlying,program,Sem.run,hT.key]
 have e3:=fJ (P:=G.P) q2;have e4:=mE (P:=G.P) hT.key false n w
 have dN:∀ob:Obj,(setObj r ob).run G.P w=.ok () {w with heap:=w.heap.setIfInBounds r ob}:=λob=>by
  have:=bF q2;simp[setObj,Sem.run,q2]
 have q0:ρ x=.map (some r):=by rw[h1,q1]
 have main:∃v,(execOp ρ o).run G.P w=.ok (.value (.tuple #[v,.int .i64 (meB k n es clock:Int)])) {w with heap:=w.heap.setIfInBounds r (.map (gR k n z es clock) (qo k n es clock))}∧cW I (bU k enc (bN l n ((aY l n).getD za))) (gR k n z es clock).toList∧gv (gR k n z es clock) (qo k n es clock):=by
  cases hg:aY l n with
  |none=>
   obtain⟨p1,p2⟩:=nt n l es.toList 0 q3 hg;have e5:(Instr.findKey K (.int k n) es.toList).run G.P w=.ok none w:=by simp[Instr.findKey,e2,p1]
   have b1:meB k n es clock=clock:=by unfold meB;rw[p1]
   have b2:gR k n z es clock=es.push ⟨.int k n,z,clock⟩:=by unfold gR;rw[p1]
   have b3:qo k n es clock=clock+1:=by unfold qo;rw[p1]
   rw[b1,b2,b3];refine⟨z,by simp[execOp,h,Instr.mapEntry,q0,h2,e1,e3,e4,e5,dN,hz,goInt],?_,q6.push _ _⟩;simpa using p2 za ⟨.int k n,z,clock⟩ (hzc I) rfl
  |some a=>
   obtain⟨j,u,p1,p2,e',p3,p4,p5⟩:=nq n l es.toList 0 a q3 hg;have e5:(Instr.findKey K (.int k n) es.toList).run G.P w=.ok (some (0+j,u)) w:=by simp[Instr.findKey,e2,p1]
   have e6:es[j]?=some e':=by simpa using p3
   have e7:(Instr.keyThatStays (.int k n) (.int k n)).run G.P w=.ok (.int k n) w:=by simp[Instr.keyThatStays,Instr.sameBits]
   have b1:meB k n es clock=e'.born:=by unfold meB;rw[p1];simp[e6]
   have b2:gR k n z es clock=es:=by unfold gR;rw[p1]
   have b3:qo k n es clock=clock:=by unfold qo;rw[p1]
   have b4:es.modify j (λe=>{e with key:=.int k n})=es:=adL λe he=>by
    rw[e6]at he;cases he;rw[←p4]
   rw[b1,b2,b3];refine⟨u,by simp[execOp,h,Instr.mapEntry,q0,h2,e1,e3,e4,e5,dN,e6,p4,e7,goInt,b4],?_,q6⟩;rw[show(some a:Option α).getD za=a from rfl,abu hg];exact q3
 obtain⟨v,hrun,hE,hB⟩:=main;rw[hrun];refine⟨.tup [.dM,.int .i64 (meB k n es clock:Int)],_,I,β,⟨rfl,rfl⟩,by simp[Rep,aW,aB],?_,aQ.refl I,λ_ _=>rfl,λx hx=>by rw[Sto.cB,if_neg (by simpa using hx)]⟩;have hbd:blk (β d)=some r:=by rw[q1];rfl
 refine hw.turn (d:=d) (Kept.setObj w r _) q5 (λx hx=>by rw[Sto.cB,if_neg hx]) (λx hx hs e=>hw.bQ x d hs (by rw[hd];rfl) hx r e (cR hbd)) (aQ.refl I) (λ_ _ _=>rfl)
  (λo v hv=>by rw[q4 o]at hv;cases hv) (q4 none) (λ_ _=>rfl) (.inr rfl) (HLe.refl β) (.inl hbd) λob hob=>?_
 rw[Sto.cB,if_pos rfl,hd]at hob;injection hob with hob
 subst hob;simp only[aj];exact .inr ⟨r,q1,by have:=bF q2;simp[Array.getElem?_setIfInBounds,this],hE,q4,q5,hB⟩
theorem arv{I:Imm}{α:Type}{k:IntKind}{n:Int}{es:Array MapEntry}{clock:Nat}{z:Value}{l:List (Int×α)}{enc:α→AV}{a:α}(hE:cW I (bU k enc l) (gR k n z es clock).toList)(hB:gv (gR k n z es clock) (qo k n es clock))(hg:aY l n=some a):
  ∃j e,(gR k n z es clock).findIdx? (λe=>(e.born:Int)==(meB k n es clock:Int))=some j∧(gR k n z es clock)[j]?=some e∧e.key=.int k n∧
   ∀(b:α) (u:Value),aB I (enc b) u→cW I (bU k enc (bN l n b)) ((gR k n z es clock).modify j λe=>{e with val:=u}).toList:=by
 obtain⟨j,u,p1,p2,e',p3,p4,p5⟩:=nq n l _ 0 a hE hg;have hb:e'.born=meB k n es clock:=by
  cases hf:Instr.findNow (.int k) (.int k n) es.toList 0 with
  |none=>
   have b1:meB k n es clock=clock:=by unfold meB;rw[hf]
   have b2:gR k n z es clock=es.push ⟨.int k n,z,clock⟩:=by unfold gR;rw[hf]
   rw[b2]at p1;exfalso;rw[Array.toList_push]at p1;have:∀(A B:List MapEntry) (i:Nat),Instr.findNow (.int k) (.int k n) A i=none→Instr.findNow (.int k) (.int k n) (A++B) i=none:=by
    intro A B;induction A with
    |nil=>intro i h;cases h
    |cons c A ih=>
     intro i h;simp only[Instr.findNow,List.cons_append]at h ⊢;cases hs:Instr.sameNow (.int k) (.int k n) c.key with
     |none=>rfl
     |some b=>
      cases b with
      |true=>rw[hs]at h;cases h
      |false=>rw[hs]at h;exact ih (i+1) h
   rw[this _ _ 0 hf]at p1;cases p1
  |some q=>
   cases q with
   |none=>
    have b1:meB k n es clock=clock:=by unfold meB;rw[hf]
    have b2:gR k n z es clock=es.push ⟨.int k n,z,clock⟩:=by unfold gR;rw[hf]
    rw[b2,Array.toList_push,uf _ _ _ _ _ hf]at p1;have hj:j=es.size:=by
     simp only[Instr.findNow]at p1;cases hs:Instr.sameNow (.int k) (.int k n) (Value.int k n)with
     |none=>rw[hs]at p1;cases p1
     |some b=>
      cases b with
      |true=>rw[hs]at p1;simp at p1;omega
      |false=>rw[hs]at p1;cases p1
    rw[b2,hj]at p3;simp at p3;rw[←p3,b1]
   |some q=>
    obtain⟨j0,v0⟩:=q;have b2:gR k n z es clock=es:=by unfold gR;rw[hf]
    rw[b2,hf]at p1;have hj:j0=j:=by simp at p1;omega
    rw[b2]at p3;have b1:meB k n es clock=((es[j0]?).map (·.born)).getD 0:=by unfold meB;rw[hf]
    have:es[j]?=some e':=by simpa using p3
    rw[b1,hj,this];rfl
 have e6:(gR k n z es clock)[j]?=some e':=by simpa using p3
 refine⟨j,e',?_,e6,p4,λb u hu=>?_⟩
 ·rw[Array.findIdx?_eq_some_iff_getElem];obtain⟨hlt,he⟩:=Array.getElem?_eq_some_iff.1 e6;refine⟨hlt,by rw[he];simp[hb],λi hi=>?_⟩;intro hc;have hc:(gR k n z es clock)[i].born=meB k n es clock:=by
   have:((gR k n z es clock)[i].born:Int)=(meB k n es clock:Int):=by simpa using hc
   omega
  have h1:=hB.1;have:=List.pairwise_iff_getElem.1 h1 i j (by simp;omega) (by simpa using hlt) hi;apply this;simp only[List.getElem_map,Array.getElem_toList];rw[hc,he,hb]
 ·have:=p5 b u (λe=>{e with key:=.int k n,val:=u}) hu (λe=>⟨rfl,rfl⟩)
  have e7:((gR k n z es clock).modify j λe=>{e with val:=u}).toList=(gR k n z es clock).toList.modify j λe=>{e with key:=.int k n,val:=u}:=by
   rw[Array.toList_modify];apply List.ext_getElem?;intro i;rw[List.getElem?_modify,List.getElem?_modify];by_cases hij:j=i
   ·subst hij;rw[p3];simp[←p4]
   ·simp[hij]
  rw[e7];exact this
theorem D.adM{α:Type}{T K E d clock:Nat}{k:IntKind}{x y v:Operand}{n:Int}{es:Array MapEntry}{z:Value}{a0:α}(l:List (Int×α))(enc:α→AV)(a:α)(h:o.op=.entryStore T x y v)(hx:ev x=.bX d)(hy:ev y=.int .i64 (meB k n es clock:Int))(hv:ev v=enc a)(hc:(enc a).closed=true)
  (hd:σ.get d=some (.dI (gR k n z es clock) (qo k n es clock) K E (bU k enc l))) (hg:aY l n=some a0) :
  dU G o ev σ [d] [] (λr σ'=>r=.undef∧σ'=σ.set d (.map K E (bU k enc (bN l n a)))):=by
 intro cx I β w ρ hw hop;have h1:=hop x (by simp[h,Op.operands]);rw[hx]at h1
 have h2:=hop y (by simp[h,Op.operands]);rw[hy]at h2;have h2:=de h2
 have h3:=hop v (by simp[h,Op.operands]);rw[hv]at h3
 have h3:=Rep.closed _ _ hc h3;simp only[Rep]at h1;obtain⟨h1,h1m⟩:=h1;have hdn:β d≠.nilFunc:=λe=>by rw[h1,e]at h1m;simp[jS]at h1m
 have ho:=hw.bB d _ hd;simp only[aj,hdn,false_or]at ho;obtain⟨r,q1,q2,q3,q4,q5,q6⟩:=ho;have e3:=fJ (P:=G.P) q2
 have dN:∀ob:Obj,(setObj r ob).run G.P w=.ok () {w with heap:=w.heap.setIfInBounds r ob}:=λob=>by
  have:=bF q2;simp[setObj,Sem.run,q2]
 have q0:ρ x=.map (some r):=by rw[h1,q1]
 obtain⟨j,e,m1,m2,m3,m4⟩:=arv q3 q6 hg
 have hrun:(execOp ρ o).run G.P w=.ok .skip {w with heap:=w.heap.setIfInBounds r (.map ((gR k n z es clock).modify j λe=>{e with val:=ρ v}) (qo k n es clock))}:=by
  simp[execOp,h,Instr.entryStore,q0,h2,e3,asInt,asIntOf,m1,dN]
 rw[hrun];refine⟨.undef,_,I,β,⟨rfl,rfl⟩,by simp[Rep,aB],?_,aQ.refl I,λ_ _=>rfl,λx hx=>by rw[Sto.cB,if_neg (by simpa using hx)]⟩;have hbd:blk (β d)=some r:=by rw[q1];rfl
 refine hw.turn (d:=d) (Kept.setObj w r _) q5 (λx hx=>by rw[Sto.cB,if_neg hx]) (λx hx hs e=>hw.bQ x d hs (by rw[hd];rfl) hx r e (cR hbd)) (aQ.refl I) (λ_ _ _=>rfl)
  (λo v hv=>by rw[q4 o]at hv;cases hv) (q4 none) (λ_ _=>rfl) (.inr rfl) (HLe.refl β) (.inl hbd) λob hob=>?_
 rw[Sto.cB,if_pos rfl,hd]at hob;injection hob with hob
 subst hob;simp only[aj];exact .inr ⟨r,_,_,q1,by have:=bF q2;simp[Array.getElem?_setIfInBounds,this],m4 a (ρ v) h3,q4,q5,q6.modify _ _ λ_=>rfl⟩
end
end
section
open Go.ChangeMaps (setBlock)
section cert
variable {G:Gl}{ops:Array Oper}{K:Env→Sto→Prop}
theorem Cert.log:∀{l:List Nat} {log aeV:List (Nat×List Nat)} {env:Env} {σ:Sto},Cert G ops ⟨false,[],[]⟩ log l env σ K→Cert G ops ⟨false,[],[]⟩ aeV l env σ K
 |[],_,_,_,_,h=>h
 |i::l,log,aeV,env,σ,h=>by
  obtain⟨o,ho,h⟩:=h;refine⟨o,ho,?_⟩;rcases h with⟨h1,h2,h3⟩|⟨h1,h2,mat,R,av,σ2,h3,h4,h5,h6,h7⟩|⟨h1,h2,M,news,Φ,h3,h4,h5,h6,h7⟩|⟨h1,h2,h3⟩
  ·exact .inl ⟨h1,h2,Cert.log h3⟩
  ·exact .inr (.inl ⟨h1,h2,mat,R,av,σ2,h3,h4,h5,h6,Cert.log h7⟩)
  ·exact .inr (.inr (.inl ⟨h1,h2,M,news,Φ,h3,(λh=>by cases h),h5,h6,λav σ' hq=>Cert.log (h7 av σ' hq)⟩))
  ·exact .inr (.inr (.inr ⟨h1,h2,Cert.log h3⟩))
theorem Cert.append{l2:List Nat}:∀{l1:List Nat} {log:List (Nat×List Nat)} {env:Env} {σ:Sto},Cert G ops ⟨false,[],[]⟩ log l1 env σ (λe s=>Cert G ops ⟨false,[],[]⟩ [] l2 e s K)→Cert G ops ⟨false,[],[]⟩ log (l1++l2) env σ K
 |[],_,_,_,h=>Cert.log h
 |i::l,log,env,σ,h=>by
  obtain⟨o,ho,h⟩:=h;refine⟨o,ho,?_⟩;rcases h with⟨h1,h2,h3⟩|⟨h1,h2,mat,R,av,σ2,h3,h4,h5,h6,h7⟩|⟨h1,h2,M,news,Φ,h3,h4,h5,h6,h7⟩|⟨h1,h2,h3⟩
  ·exact .inl ⟨h1,h2,Cert.append h3⟩
  ·exact .inr (.inl ⟨h1,h2,mat,R,av,σ2,h3,h4,h5,h6,Cert.append h7⟩)
  ·exact .inr (.inr (.inl ⟨h1,h2,M,news,Φ,h3,h4,h5,h6,λav σ' hq=>Cert.append (h7 av σ' hq)⟩))
  ·exact .inr (.inr (.inr ⟨h1,h2,Cert.append h3⟩))
end cert
variable {id:Nat}
theorem A.RX{P:Program}{N:Nat}{ids:List Nat}{tb:Tb}{env:Env}{σ:Sto}{Q:Exit→Env→Sto→Prop}(W:Wld P tb){ops:Array Oper}(n:Nat)(l2:List Nat)(hs:List (Nat×Hint P))(e1:Env)(s1:Sto){o:Oper}{M news:List Nat}{Φ:AV→Sto→Prop}
  (hl:List.range ops.size=List.range n++n::l2) (hd:rK N ops=true) (h1:qn tb ids ops ⟨false,[],[]⟩ ((List.range n).map λi=>(i,hintOf hs i)) [] env σ=some (e1,s1,(List.range n).map λi=>(hintOf hs i).exp))
  (ho:ops[n]?=some o) (hg:o.guard=none) (D:dU ⟨P,N,ids⟩ o e1.ev s1 M news Φ) (hc:e1.clean news.contains=true) (hn:news.all (λd=>!ids.contains d&&(s1.get d).isNone)=true)
  (k:∀av σ',Φ av σ'→∃(hs2:List (Nat×Hint P)) (e2:Env) (s2:Sto),qn tb ids ops ⟨false,[],[]⟩ (l2.map λi=>(i,hintOf hs2 i)) [] (e1.put o.dst av) σ'=some (e2,s2,l2.map λi=>(hintOf hs2 i).exp)∧Q .normal e2 s2):af ⟨P,N,ids⟩ (.region id ops false) Q env σ:=by
 refine A.region hd ?_;rw[hl]
 have run:∀(hs:List (Nat×Hint P)) (l:List Nat) {K:Env→Sto→Prop} {e e':Env} {s s':Sto},qn tb ids ops ⟨false,[],[]⟩ (l.map λi=>(i,hintOf hs i)) [] e s=some (e',s',l.map λi=>(hintOf hs i).exp)→K e' s'→Cert ⟨P,N,ids⟩ ops ⟨false,[],[]⟩ [] l e s K:=λhs l K e e' s s' h hK=>by
  have:=nN (N:=N) (K:=K) W h (by rw[List.map_map];rfl) hK;rw[List.map_map,show((λx:Nat×Hint P=>x.1)∘λi=>(i,hintOf hs i))=λi=>i from rfl,List.map_id']at this;exact this
 refine Cert.append (run hs _ h1 ?_);refine⟨o,ho,.inr (.inr (.inl ⟨?_,(λh=>by cases h),M,news,Φ,D,(λh=>by cases h),hc,λd hd=>?_,λav σ' hq=>?_⟩))⟩
 ·simp only[Want,hg]
 ·have:=List.all_eq_true.1 hn d hd;simpa using this
 ·obtain⟨hs2,e2,s2,g1,g2⟩:=k av σ' hq;exact run hs2 _ g1 g2
section iter
variable {G:Gl}{σ:Sto}{o:Oper}{ev:Operand→AV}
theorem vm{cx:Cx}{I:Imm}{β:Nat→Value}{w:World}(hw:aX G cx I β σ w){di clock:Nat}{es:Array MapEntry}{aL:List (AV×AV)}{seen:Array Nat}(hi:σ.get di=some (.ei es clock aL seen)){v:Value}(h1:Rep I β (.ptr di 0) v):
  ∃r bm,v=.pointer (some ⟨r,0,none⟩)∧blk (β di)=some r∧w.heap[r]?=some (.mapIter (some bm) clock seen clock)∧w.heap[bm]?=some (.map es clock)∧I bm none=some (lg es clock)∧cW I aL es.toList∧gv es clock∧(∀o,I r o=none)∧Place cx r∧β di=.pointer (some ⟨r,0,none⟩):=by
 simp only[Rep]at h1;obtain⟨b,h1,h2⟩:=h1;have hin:β di≠.nilFunc:=λe=>by rw[e]at h1;cases h1
 have ho:=hw.bB di _ hi;simp only[aj,hin,false_or]at ho;obtain⟨r,bm,q1,q2,q3,q4,q5,q6,q7⟩:=ho;have hbr:b=r:=by rw[q1]at h1;simpa [blk]using h1.symm
 subst hbr;obtain⟨es',clock',g1,g2⟩:=hw.dO bm _ q3;obtain⟨rfl,rfl⟩:=sZ g2;exact⟨b,bm,h2,h1,q2,g1,q3,q4,q5,q6,q7,q1⟩
theorem D.agn{T K E di:Nat}{x:Operand}{aL:List (AV×AV)}(h:o.op=.range T x)(hx:ev x=.mpf aL)(hT:G.P.underlying T=some (.map K E))(hi:G.ids.contains di=false)(hc:σ.clean [di].contains=true):
  dU G o ev σ [di] [di] (λr σ'=>r=.ptr di 0∧∃es clock,σ'=(di,.ei es clock aL #[])::σ):=by
 intro cx I β w ρ hw hop;have h1:=hop x (by simp[h,Op.operands]);rw[hx]at h1
 simp only[Rep,aB]at h1;obtain⟨bm,es,clock,q1,q2,q3,q4⟩:=h1;obtain⟨es',clock',g1,g2⟩:=hw.dO bm _ q2;obtain⟨rfl,rfl⟩:=sZ g2;have hrun:(execOp ρ o).run G.P w=.ok (.value (.pointer (some ⟨w.heap.size,0,none⟩))) (w.alloc (.mapIter (some bm) clock #[] clock)):=by
  simp[execOp,h,q1,run_range_map w T K E bm es clock hT g1]
 rw[hrun];have hv:=hw.ov (mat:=[di]) (σ2:=σ) (env:=[]) ⟨λ_ _=>rfl,by simpa using hi,rfl,hc,λx hx dm n h=>by have:=(Sto.cm hc x _ h).1;rw[List.contains_iff_mem.2 hx]at this;cases this⟩;have hb:∀y,y≠di→en (dP β [di]) di (.pointer (some ⟨w.heap.size,0,none⟩)) y=β y:=λy hy=>by rw[cc _ _ hy];simp[dP,hy]
 have hbi:en (dP β [di]) di (.pointer (some ⟨w.heap.size,0,none⟩)) di=.pointer (some ⟨w.heap.size,0,none⟩):=bO _ _ _;refine⟨.ptr di 0,_,I,en (dP β [di]) di (.pointer (some ⟨w.heap.size,0,none⟩)),⟨rfl,es,clock,rfl⟩,?_,?_,aQ.refl I,λy hy=>hb y (by simpa using hy),λy hy=>by rw[Sto.aK,if_neg (Ne.symm (by simpa using hy))]⟩
 ·simp only[Rep,hbi];exact⟨w.heap.size,rfl,rfl⟩
 ·refine hv.turn (d:=di) (Kept.alloc w _) (.inl hw.size) (λx hx=>by rw[Sto.aK,if_neg (Ne.symm hx)]) (λx hx hs e=>by
    obtain⟨ob,hs⟩:=Option.isSome_iff_exists.1 hs;exact absurd (hv.lE hs e) (by omega)) (aQ.refl I) (λ_ _ _=>rfl) (λo' v' hv'=>by rw[hw.ct (Nat.le_refl _)]at hv';cases hv') (hw.ct (Nat.le_refl _) none)
   (λx hx=>cc _ _ hx) (.inl (by simpa using hi)) (HLe.upd (by simp[dP])) (.inl (by rw[hbi];rfl)) λob hob=>?_
  rw[Sto.aK,if_pos rfl]at hob;cases hob;simp only[aj,hbi];exact .inr ⟨w.heap.size,bm,rfl,heap_alloc_new w _,q2,q3,q4,λo=>hw.ct (Nat.le_refl _) o,.inl hw.size⟩
theorem D.arw{di clock:Nat}{x:Operand}{es:Array MapEntry}{aL:List (AV×AV)}{seen:Array Nat}(h:o.op=.next x false)(hx:ev x=.ptr di 0)(hi:σ.get di=some (.ei es clock aL seen)):
  dU G o ev σ [di] [] (λr σ'=>((leftOf es seen).size=0∧r=.tup [.bool false]∧σ'=σ)∨∃e∈(leftOf es seen).toList,r=.tup [.bool true,.dM,.dM]∧σ'=σ.set di (.ei es clock aL (seen.push e.born))):=by
 intro cx I β w ρ hw hop;have h1:=hop x (by simp[h,Op.operands]);rw[hx]at h1
 obtain⟨b,bm,h2,hbd,q3,p2,q6,q7,p3,q4,q5,q1⟩:=vm hw hi h1;rcases run_next_at (P:=G.P) w o.type b bm clock clock seen es clock q3 p2 p3.2 (Nat.le_refl _)with⟨s1,s2⟩|⟨e,s1,w1,s2,s3⟩
 ·have hrun:(execOp ρ o).run G.P w=.ok (.value (.tuple #[.bool false])) w:=by simp[execOp,h,h2,s2]
  rw[hrun];refine⟨.tup [.bool false],σ,I,β,.inl ⟨s1,rfl,rfl⟩,?_,hw,aQ.refl I,λ_ _=>rfl,λ_ _=>rfl⟩;simp[Rep,aW,aB]
 ·have hrun:(execOp ρ o).run G.P w=.ok (.value (.tuple #[.bool true,e.key,e.val])) (setBlock w1 b (.mapIter (some bm) clock (seen.push e.born) clock)):=by simp[execOp,h,h2,s3]
  rw[hrun];refine⟨.tup [.bool true,.dM,.dM],σ.set di (.ei es clock aL (seen.push e.born)),I,β,.inr ⟨e,s1,rfl,rfl⟩,?_,?_,aQ.refl I,λ_ _=>rfl,λy hy=>by rw[Sto.cB,if_neg (by simpa using hy)]⟩
  ·simp only[Rep,aW,aB];exact⟨_,rfl,_,_,rfl,rfl,_,_,rfl,trivial,_,_,rfl,trivial,rfl⟩
  ·have hk:Kept w (setBlock w1 b (.mapIter (some bm) clock (seen.push e.born) clock)) b:=by
    rcases s2 with rfl|rfl
    ·exact Kept.setObj _ b _
    ·exact Kept.drew (Kept.setObj _ b _)
   have hh:(setBlock w1 b (.mapIter (some bm) clock (seen.push e.born) clock)).heap[b]?=some (.mapIter (some bm) clock (seen.push e.born) clock):=by
    have hlt:=bF q3;have:w1.heap=w.heap:=by rcases s2 with rfl|rfl<;>rfl
    simp[setBlock,this,Array.getElem?_setIfInBounds,hlt]
   refine hw.turn (d:=di) hk q5 (λx hx=>by rw[Sto.cB,if_neg hx]) (λx hx hs e'=>hw.bQ x di hs (by rw[hi];rfl) hx b e' (cR hbd)) (aQ.refl I) (λ_ _ _=>rfl)
    (λo v hv=>by rw[q4 o]at hv;cases hv) (q4 none) (λ_ _=>rfl) (.inr rfl) (HLe.refl β) (.inl hbd) λob hob=>?_
   rw[Sto.cB,if_pos rfl,hi]at hob;injection hob with hob
   subst hob;simp only[aj];exact .inr ⟨b,bm,q1,hh,q6,q7,p3,q4,q5⟩
theorem Y.aoh{α:Type}{di clock i:Nat}{k:IntKind}{x:Operand}{es:Array MapEntry}{seen:Array Nat}{e:MapEntry}{n:Int}{v:α}(l:List (Int×α))(enc:α→AV)(h:o.op=.entry x)(hx:ev x=.ptr di 0)(hi:σ.get di=some (.ei es clock (bU k enc l) (seen.push e.born)))
  (he:es[i]?=some e) (hn:l[i]?=some (n,v)):Yields G o ev σ [] [di] (.tup [.int k n,enc v]):=
 .pure λσ' cx I β w ρ hR hw hop=>by
  have h1:=hop x (by simp[h,Op.operands]);rw[hx]at h1
  obtain⟨b,bm,h2,hbd,q3,p2,q6,q7,p3,q4,q5,q1⟩:=vm hw (by rw[hR di (by simp)];exact hi) h1;have hmem:e∈es.toList:=by
   have:es.toList[i]?=some e:=by simpa using he
   exact List.mem_of_getElem? this
  have hrun:(execOp ρ o).run G.P w=.ok (.value (.tuple #[e.key,e.val])) w:=by simp[execOp,h,h2,run_entry_at (P:=G.P) w b bm clock seen es clock e q3 p2 hmem p3.1]
  refine⟨_,hrun,?_⟩;obtain⟨s1,s2⟩:=vg q7 (i:=i) (a:=.int k n) (c:=enc v) (e:=e) (by simp[bU,hn]) (by simpa using he);simp only[Rep,aW];exact⟨_,rfl,e.key,[e.val],rfl,s1,e.val,[],rfl,aB.rep β _ _ s2,rfl⟩
theorem Y.aoi{κ α:Type}{di clock i:Nat}{ek:κ→AV}{x:Operand}{es:Array MapEntry}{seen:Array Nat}{e:MapEntry}{n:κ}{v:α}(l:List (κ×α))(enc:α→AV)(h:o.op=.entry x)(hx:ev x=.ptr di 0)(hi:σ.get di=some (.ei es clock (bG ek enc l) (seen.push e.born)))
  (he:es[i]?=some e) (hn:l[i]?=some (n,v)):Yields G o ev σ [] [di] (.tup [ek n,enc v]):=
 .pure λσ' cx I β w ρ hR hw hop=>by
  have h1:=hop x (by simp[h,Op.operands]);rw[hx]at h1
  obtain⟨b,bm,h2,hbd,q3,p2,q6,q7,p3,q4,q5,q1⟩:=vm hw (by rw[hR di (by simp)];exact hi) h1;have hmem:e∈es.toList:=by
   have:es.toList[i]?=some e:=by simpa using he
   exact List.mem_of_getElem? this
  have hrun:(execOp ρ o).run G.P w=.ok (.value (.tuple #[e.key,e.val])) w:=by simp[execOp,h,h2,run_entry_at (P:=G.P) w b bm clock seen es clock e q3 p2 hmem p3.1]
  refine⟨_,hrun,?_⟩;obtain⟨s1,s2⟩:=vg q7 (i:=i) (a:=ek n) (c:=enc v) (e:=e) (by simp[bG,hn]) (by simpa using he);simp only[Rep,aW];exact⟨_,rfl,e.key,[e.val],rfl,aB.rep β _ _ s1,e.val,[],rfl,aB.rep β _ _ s2,rfl⟩
end iter
theorem acM{I:Imm}:∀{aL:List (AV×AV)} {es:List MapEntry},cW I aL es→es.length=aL.length
 |[],_,h=>by simp only[cW]at h;rw[h];rfl
 |(k,v)::r,_,h=>by
  simp only[cW]at h;obtain⟨e,us,rfl,_,_,h3⟩:=h;simp[acM h3]
theorem ago{A:Type}[DecidableEq A]{a b:List A}(h:a.Nodup)(hs:∀x∈a,x∈b):a.length≤b.length:=by
 induction a generalizing b with
 |nil=>simp
 |cons x a ih=>
  rw[List.nodup_cons]at h;have hx:=hs x (by simp);have:=ih (b:=b.erase x) h.2 λy hy=>(List.mem_erase_of_ne (λe=>h.1 (by rw[←e];exact hy))).2 (hs y (by simp[hy]));rw[List.length_erase_of_mem hx]at this;have:=List.length_pos_of_mem hx;simp only[List.length_cons];omega
variable {S α:Type}{b clock di it t1 t2:Nat}
theorem A.aoj{κ:Type}{G:Gl}{σ:Sto}{env:Env}{Q:Exit→Env→Sto→Prop}{ek:κ→AV}{enc:α→AV}{l:List (κ×α)}{es:Array MapEntry}{o1 o2:Oper}{y:Code}
  (Inv:List (κ×α)→S→Prop) (g0:S) (cn:S→Env) (dh:Array Nat→S→Sto) (ho1:o1.op=.next (.tmp it) false∧o1.dst=some t1∧o1.guard=none) (ho2:o2.op=.extract (.tmp t1) 0∧o2.dst=some t2∧o2.guard=none) (hd:rK G.N #[o1,o2]=true)
  (h0:Inv [] g0) (hit:∀g,(cn g).get it=.ptr di 0) (hsi:∀seen g,(dh seen g).get di=some (.ei es clock (bG ek enc l) seen))
  (dN:∀seen g s',(dh seen g).set di (.ei es clock (bG ek enc l) s')=dh s' g) (hw:aU G env σ (cn g0) (dh #[] g0))
  (body:∀(seen:Array Nat) (e:MapEntry) (i:Nat) (n:κ) (v:α) (p:List (κ×α)) (g:S),es[i]?=some e→l[i]?=some (n,v)→p.length<l.length→Inv p g→
   af G y (l8 (λenv' σ'=>∃g',Inv (p++[(n,v)]) g'∧aU G env' σ' (cn g') (dh (seen.push e.born) g')) Q) ((t2,.bool true)::(t1,.tup [.bool true,.dM,.dM])::cn g) (dh (seen.push e.born) g))
  (out:∀seen p g,p.Perm l→Inv p g→Q (.exit b) ((t2,.bool false)::(t1,.tup [.bool false])::cn g) (dh seen g)) :
  af G (.loop (.seq (.region id #[o1,o2] false) (.seq (.cond (.tmp t2) .skip (.exit b)) y))) Q env σ:=by
 refine A.loop (α:=Array Nat×S) (λs=>cn s.2) (λs=>dh s.1 s.2) (λs=>∃p:List Nat,p.Nodup∧(∀i∈p,i<l.length)∧(∀(i:Nat) (e:MapEntry),es[i]?=some e→(s.1.contains e.born=true↔i∈p))∧Inv (sel l p) s.2)
  (λs=>(leftOf es s.1).size) (#[],g0) ⟨[],List.nodup_nil,by simp,by simp,h0⟩ hw ?_
 rintro⟨seen,g⟩ ⟨p,p1,p2,p3,p4⟩;refine A.anK (F:=es.size=l.length∧(es.toList.map (·.born)).Nodup) (λcx I β a w hW hT=>?_) λ⟨f1,f2⟩=>?_
 ·have h1:=hT it;rw[show(cn (seen,g).2).get it=.ptr di 0 from hit g]at h1;obtain⟨b,bm,h2,hbd,q3,p2,q6,q7,p3,q4,q5,q1⟩:=vm hW (hsi seen g) h1;have:=acM q7;exact⟨by simpa [bG]using this,p3.1⟩
 have h21:Env.get ((t2,.bool true)::(t1,.tup [.bool true,.dM,.dM])::cn g) t2=.bool true:=by rw[Env.aK,if_pos rfl]
 have h20:Env.get ((t2,.bool false)::(t1,.tup [.bool false])::cn g) t2=.bool false:=by rw[Env.aK,if_pos rfl]
 refine A.seq (A.region hd ?_);show Cert G #[o1,o2] ⟨false,[],[]⟩ [] [0,1] (cn g) (dh seen g) _;refine⟨o1,rfl,.inr (.inr (.inl ⟨by simp only[Want,ho1.2.2],by simp,[di],[],_,D.arw (x:=.tmp it) ho1.1 (hit g) (hsi seen g),by simp,Env.gi _,by simp,λav σ' hav=>?_⟩))⟩
 have ext:∀(vs:List AV) (bb:Bool) (σ':Sto) (K:Env→Sto→Prop),vs[0]?=some (.bool bb)→K ((t2,.bool bb)::(t1,.tup vs)::cn g) σ'→Cert G #[o1,o2] ⟨false,[],[]⟩ [] [1] ((cn g).put o1.dst (.tup vs)) σ' K:=λvs bb σ' K hv hK=>by
  refine⟨o2,rfl,.inr (.inl ⟨by simp only[Want,ho2.2.2],by simp,[],[],.bool bb,σ',uG.none _ _ _,by simp,by simp,Y.extract (x:=.tmp t1) ho2.1 (by rw[ho1.2.1];show Env.get _ _=_;rw[Env.put,Env.aK,if_pos rfl]) hv,?_⟩)⟩;rw[ho1.2.1,ho2.2.1];exact hK
 rcases hav with⟨u1,rfl,rfl⟩|⟨e,u1,rfl,rfl⟩
 ·refine ext _ false _ _ rfl ?_
  have hall:∀i,i∈p↔i<l.length:=λi=>⟨p2 i,λhlt=>by
   have hlt':i<es.size:=by omega
   refine(p3 i es[i] (Array.getElem?_eq_getElem hlt')).1 ?_;by_cases hc:seen.contains es[i].born=true
   ·exact hc
   ·exfalso;have:es[i]∈leftOf es seen:=by
     unfold leftOf;rw[Array.mem_filter];exact⟨Array.getElem_mem hlt',by simpa using hc⟩
    have:leftOf es seen≠#[]:=λe=>by rw[e]at this;simp at this
    exact this (Array.eq_empty_of_size_eq_zero u1)⟩
  have hp:(sel l p).Perm l:=by
   have:=(vi p1 hall).filterMap λi=>l[i]?;have e2:=wV l;unfold sel at e2 ⊢
   rwa [e2]at this
  refine A.seq (A.cond (b:=false) h20 (λh=>by cases h) λ_=>A.exit ?_);exact out seen _ g hp p4
 ·refine ext _ true _ _ rfl ?_;rw[dN seen g];obtain⟨v1,v2⟩:=mem_left u1;obtain⟨i,hi1⟩:=List.getElem?_of_mem v1;have hi1:es[i]?=some e:=by simpa using hi1
  have hil:i<l.length:=by have:=(Array.getElem?_eq_some_iff.1 hi1).1;omega
  have hip:i∉p:=λh=>by
   have:=(p3 i e hi1).2 h;rw[v2]at this;cases this
  have hli:l[i]?=some (l[i].1,l[i].2):=List.getElem?_eq_getElem hil;have hnd:(p++[i]).Nodup:=by
   rw[List.nodup_append];exact⟨p1,by simp,λa ha c hc=>by simp only[List.mem_singleton]at hc;subst hc;exact λe=>hip (e▸ha)⟩
  have vj:∀j∈p++[i],j<l.length:=λj hj=>by
   rcases List.mem_append.1 hj with hj|hj
   ·exact p2 j hj
   ·rw[List.mem_singleton.1 hj];exact hil
  have e1:sel l (p++[i])=sel l p++[(l[i].1,l[i].2)]:=by
   unfold sel;rw[List.filterMap_append];simp[List.filterMap_cons,List.getElem?_eq_getElem hil]
  refine A.seq (A.cond (b:=true) h21 (λ_=>A.skip ?_) λh=>by cases h);refine(body seen e i l[i].1 l[i].2 _ g hi1 hli (by
   have h1:=ago hnd (b:=List.range l.length) λj hj=>List.mem_range.2 (vj j hj);have h2:(sel l p).length≤p.length:=List.length_filterMap_le ..;rw[List.length_range,List.length_append]at h1;simp only[List.length_cons,List.length_nil]at h1;omega) p4).mono λex env' σ' hq=>?_
  cases ex with
  |normal=>
   obtain⟨g',hq1,hq2⟩:=hq;refine⟨(seen.push e.born,g'),⟨p++[i],hnd,vj,λj e' hj=>?_,by rw[e1];exact hq1⟩,left_shrinks es seen e u1,hq2⟩;rw[contains_push,Bool.or_eq_true,beq_iff_eq,p3 j e' hj,List.mem_append,List.mem_singleton];constructor
   ·rintro(h|h)
    ·exact .inl h
    ·right;have hj':es.toList[j]?=some e':=by simpa using hj
     have hi':es.toList[i]?=some e:=by simpa using hi1
     have hjl:=(List.getElem?_eq_some_iff.1 hj').1;have hilt:=(List.getElem?_eq_some_iff.1 hi').1;have g1:=(List.getElem?_eq_some_iff.1 hj').2;have g2:=(List.getElem?_eq_some_iff.1 hi').2;have pw:=List.pairwise_iff_getElem.1 f2;rcases Nat.lt_trichotomy j i with q|q|q
     ·refine absurd ?_ (pw j i (by simpa using hjl) (by simpa using hilt) q);rw[List.getElem_map,List.getElem_map,g1,g2,h]
     ·exact q
     ·refine absurd ?_ (pw i j (by simpa using hilt) (by simpa using hjl) q);rw[List.getElem_map,List.getElem_map,g1,g2,h]
   ·rintro(h|h)
    ·exact .inl h
    ·subst h;rw[hi1]at hj;cases hj;exact .inr rfl
  |_=>exact hq
theorem A.rngF{G:Gl}{σ:Sto}{env:Env}{Q:Exit→Env→Sto→Prop}{k:IntKind}{enc:α→AV}{l:List (Int×α)}{es:Array MapEntry}{o1 o2:Oper}{y:Code}
  (Inv:List (Int×α)→S→Prop) (g0:S) (cn:S→Env) (dh:Array Nat→S→Sto) (ho1:o1.op=.next (.tmp it) false∧o1.dst=some t1∧o1.guard=none) (ho2:o2.op=.extract (.tmp t1) 0∧o2.dst=some t2∧o2.guard=none) (hd:rK G.N #[o1,o2]=true)
  (h0:Inv [] g0) (hit:∀g,(cn g).get it=.ptr di 0) (hsi:∀seen g,(dh seen g).get di=some (.ei es clock (bU k enc l) seen))
  (dN:∀seen g s',(dh seen g).set di (.ei es clock (bU k enc l) s')=dh s' g) (hw:aU G env σ (cn g0) (dh #[] g0))
  (body:∀(seen:Array Nat) (e:MapEntry) (i:Nat) (n:Int) (v:α) (p:List (Int×α)) (g:S),es[i]?=some e→l[i]?=some (n,v)→Inv p g→
   af G y (l8 (λenv' σ'=>∃g',Inv (p++[(n,v)]) g'∧aU G env' σ' (cn g') (dh (seen.push e.born) g')) Q) ((t2,.bool true)::(t1,.tup [.bool true,.dM,.dM])::cn g) (dh (seen.push e.born) g))
  (out:∀seen p g,p.Perm l→Inv p g→Q (.exit b) ((t2,.bool false)::(t1,.tup [.bool false])::cn g) (dh seen g)) :
  af G (.loop (.seq (.region id #[o1,o2] false) (.seq (.cond (.tmp t2) .skip (.exit b)) y))) Q env σ:=
 A.aoj (ek:=λn=>.int k n) Inv g0 cn dh ho1 ho2 hd h0 hit hsi dN hw (λseen e i n v p g h1 h2 _ h3=>body seen e i n v p g h1 h2 h3) out
end
section
section
variable {P:Program}
def xiF(T0:Nat)(op:Op)(env:Env)(σ:Sto):Option (Stp×Obs):=match op with
 |.indexAddr T x y=>(match env.evo x with
  |some (.own d)=>(match env.evo y with
   |some (.int k i)=>(match σ.get d with
    |some (.slm T1 xs t)=>bif Nat.beq T T0 then some (.y [d] (.ptr d i.toNat),([.int .i64 i],[(0,.slm 0 xs 0)]))else none
    |_=>none)
   |_=>none)
  |_=>none)
 |_=>none
theorem aok{T0 E:Nat}{xs:List (List AV)}{i:Int}(hT:SlS P T0 E 1)(hi:0≤i∧i<(xs.length:Int)+1){o:Oper}{N:Nat}{ids:List Nat}{env:Env}{σ:Sto}{s:Stp}{ob:Obs}
  (h:xiF T0 o.op env σ=some (s,ob)) (he:ob=([.int .i64 i],[(0,.slm 0 xs 0)])):cz ⟨P,N,ids⟩ o env σ s:=by
 cases ho:o.op<;>rw[ho]at h
 case indexAddr T x y=>
  simp only[xiF]at h;split at h
  ·rename_i d hx;split at h
   ·rename_i k i' hy;split at h
    ·rename_i T1 xs' t hd;cases hc:Nat.beq T T0 with
     |false=>rw[hc]at h;cases h
     |true=>
      rw[hc]at h;have:=Nat.eq_of_beq_eq_true hc;subst this;cases h;simp only[Prod.mk.injEq,List.cons.injEq,AV.int.injEq,br.slm.injEq,and_true,true_and]at he;obtain⟨rfl,rfl⟩:=he;exact Y.aoc ho (Env.aG hx) (Env.aG hy) hd hT hi
    ·cases h
   ·cases h
  ·cases h
 all_goals (simp only[xiF]at h;cases h)
def hxi{T0 E:Nat}{xs:List (List AV)}{i:Int}(hT:SlS P T0 E 1)(hi:0≤i∧i<(xs.length:Int)+1):Hint P:=
 .gs false ([.int .i64 i],[(0,.slm 0 xs 0)]) (λ_=>xiF T0) λ_ _ _ _ _ _ _ h he=>aok hT hi h he
def xlF(T0:Nat)(op:Op)(env:Env)(σ:Sto):Option (Stp×Obs):=match op with
 |.load T x=>(match env.evo x with
  |some (.ptr d p)=>(match σ.get d with
   |some (.slm T1 xs t)=>(match σ.get t with
    |some om=>bif Nat.beq T T0&&om.aeU then some (.y [d,t] (.bX t),([.ptr 0 p],[(0,.slm 0 xs 0)]))else none
    |_=>none)
   |_=>none)
  |_=>none)
 |_=>none
theorem aol{T0 p:Nat}{xs:List (List AV)}(hT:TyS P T0 1 false)(hp:p=xs.length){o:Oper}{N:Nat}{ids:List Nat}{env:Env}{σ:Sto}{s:Stp}{ob:Obs}
  (h:xlF T0 o.op env σ=some (s,ob)) (he:ob=([.ptr 0 p],[(0,.slm 0 xs 0)])):cz ⟨P,N,ids⟩ o env σ s:=by
 cases ho:o.op<;>rw[ho]at h
 case load T x=>
  simp only[xlF]at h;split at h
  ·rename_i d p' hx;split at h
   ·rename_i T1 xs' t hd;split at h
    ·rename_i om ht;cases hc:(Nat.beq T T0&&om.aeU)with
     |false=>rw[hc]at h;cases h
     |true=>
      rw[hc]at h;simp only[Bool.and_eq_true]at hc;have:=Nat.eq_of_beq_eq_true hc.1;subst this;cases h;simp only[Prod.mk.injEq,List.cons.injEq,AV.ptr.injEq,br.slm.injEq,and_true,true_and]at he;obtain⟨rfl,rfl⟩:=he;exact Y.aod ho (Env.aG hx) hd hp ht hc.2 hT
    ·cases h
   ·cases h
  ·cases h
 all_goals (simp only[xlF]at h;cases h)
def hxl{T0 p:Nat}{xs:List (List AV)}(hT:TyS P T0 1 false)(hp:p=xs.length):Hint P:=
 .gs false ([.ptr 0 p],[(0,.slm 0 xs 0)]) (λ_=>xlF T0) λ_ _ _ _ _ _ _ h he=>aol hT hp h he
def xoF(T0:Nat)(a:AV)(op:Op)(env:Env)(σ:Sto):Option (Stp×Obs):=match op with
 |.load T x=>(match env.evo x with
  |some (.ptr d p)=>(match σ.get d with
   |some (.slm T1 xs t)=>bif Nat.beq T T0 then some (.y [d] a,([.ptr 0 p],[(0,.slm 0 xs 0)]))else none
   |_=>none)
  |_=>none)
 |_=>none
theorem aom{T0 p:Nat}{xs:List (List AV)}{a:AV}(hT:TyS P T0 1 false)(hp:xs[p]?=some [a]){o:Oper}{N:Nat}{ids:List Nat}{env:Env}{σ:Sto}{s:Stp}{ob:Obs}
  (h:xoF T0 a o.op env σ=some (s,ob)) (he:ob=([.ptr 0 p],[(0,.slm 0 xs 0)])):cz ⟨P,N,ids⟩ o env σ s:=by
 cases ho:o.op<;>rw[ho]at h
 case load T x=>
  simp only[xoF]at h;split at h
  ·rename_i d p' hx;split at h
   ·rename_i T1 xs' t hd;cases hc:Nat.beq T T0 with
    |false=>rw[hc]at h;cases h
    |true=>
     rw[hc]at h;have:=Nat.eq_of_beq_eq_true hc;subst this;cases h;simp only[Prod.mk.injEq,List.cons.injEq,AV.ptr.injEq,br.slm.injEq,and_true,true_and]at he;obtain⟨rfl,rfl⟩:=he;exact Y.aoe ho (Env.aG hx) hd hp hT
   ·cases h
  ·cases h
 all_goals (simp only[xoF]at h;cases h)
def hxo{T0 p:Nat}{xs:List (List AV)}{a:AV}(hT:TyS P T0 1 false)(hp:xs[p]?=some [a]):Hint P:=
 .gs false ([.ptr 0 p],[(0,.slm 0 xs 0)]) (λ_=>xoF T0 a) λ_ _ _ _ _ _ _ h he=>aom hT hp h he
def xaF(T0 E0 d2:Nat)(ids:List Nat)(op:Op)(env:Env)(σ:Sto):Option (Stp×Obs):=match op with
 |.call c=>(match c.callee with
  |.builtin b=>(match b with
   |.append=>(match c.args.toList with
    |[s,x]=>(match c.argTypes.toList with
     |[T,T']=>(match env.evo s with
      |some (.own d)=>(match σ.get d with
       |some (.slice T1 1 xs 0 fz)=>(match env.evo x with
        |some (.hnd (.csl 1) dc)=>(match σ.get dc with
         |some (.cells Tc [.bX t])=>bif Nat.beq T T0&&Nat.beq T' T0&&Nat.beq T1 E0&&!ids.contains d2&&(σ.minus [d]).clean [d2].contains&&!Nat.beq dc d&&!Nat.beq t d then
           some (.e [d,d2] [d2] (.own d2) ((d2,.slm T1 xs t)::σ.minus [d]),([],[(0,.slm 0 xs 0)]))else none
         |_=>none)
        |_=>none)
       |_=>none)
      |_=>none)
     |_=>none)
    |_=>none)
   |_=>none)
  |_=>none)
 |_=>none
theorem aon{T0 E0 bytes d2:Nat}{xs:List (List AV)}(hA:gL P T0 E0 1 bytes)(hb:(xs.length+1)*bytes≤140737488355328)(h63:xs.length+1≤maxLen){o:Oper}{N:Nat}{ids:List Nat}{env:Env}{σ:Sto}{s:Stp}{ob:Obs}
  (h:xaF T0 E0 d2 ids o.op env σ=some (s,ob)) (he:ob=([],[(0,.slm 0 xs 0)])):cz ⟨P,N,ids⟩ o env σ s:=by
 cases ho:o.op<;>rw[ho]at h
 case call c=>
  obtain⟨cl,args,tys⟩:=c;simp only[xaF]at h;split at h
  ·rename_i b;split at h
   ·split at h
    ·rename_i s1 x hargs;have:args=#[s1,x]:=Array.toList_inj.1 (by simpa using hargs);subst this;split at h
     ·rename_i T T' acG;have:tys=#[T,T']:=Array.toList_inj.1 (by simpa using acG);subst this;split at h
      ·rename_i d hs;split at h
       ·rename_i T1 xs' fz hd;split at h
        ·rename_i dc hx;split at h
         ·rename_i Tc t hdc;cases hc:(Nat.beq T T0&&Nat.beq T' T0&&Nat.beq T1 E0&&!ids.contains d2&&(σ.minus [d]).clean [d2].contains&&!Nat.beq dc d&&!Nat.beq t d)with
          |false=>rw[hc]at h;cases h
          |true=>
           rw[hc]at h;simp only[Bool.and_eq_true,Bool.not_eq_true']at hc;obtain⟨⟨⟨⟨⟨⟨c1,c2⟩,c3⟩,c4⟩,c5⟩,c6⟩,c7⟩:=hc;have:=Nat.eq_of_beq_eq_true c1;subst this
           have:=Nat.eq_of_beq_eq_true c2;subst this
           have:=Nat.eq_of_beq_eq_true c3;subst this
           cases h;simp only[Prod.mk.injEq,List.cons.injEq,br.slm.injEq,and_true,true_and]at he;subst he;exact⟨D.alC ho (Env.aG hs) hd (Env.aG hx) hdc hA rfl hb h63 c4 c5 (Nat.ne_of_beq_eq_false c6) (Nat.ne_of_beq_eq_false c7),by simp only[List.all_cons,List.all_nil,c4];rfl⟩
         ·cases h
        ·cases h
       ·cases h
      ·cases h
     ·cases h
    ·cases h
   ·cases h
  ·cases h
 all_goals (simp only[xaF]at h;cases h)
def hxa{T0 E0 bytes:Nat}(d2:Nat){xs:List (List AV)}(hA:gL P T0 E0 1 bytes)(hb:(xs.length+1)*bytes≤140737488355328)(h63:xs.length+1≤maxLen):Hint P:=
 .gs true ([],[(0,.slm 0 xs 0)]) (xaF T0 E0 d2) λ_ _ _ _ _ _ _ h he=>aon hA hb h63 h he
def meF{α:Type}(T0 K0 E0:Nat)(k:IntKind)(n:Int)(z:Value)(l:List (Int×α))(enc:α→AV)(za:α)(es:Array MapEntry)(clock:Nat)(op:Op)(env:Env)(σ:Sto):Option (Stp×Obs):=match op with
 |.mapEntry T x y=>(match env.evo x with
  |some (.bX d)=>(match env.evo y with
   |some (.int k' n')=>(match σ.get d with
    |some (.dI es' c K E aL)=>bif Nat.beq T T0&&Nat.beq K K0&&Nat.beq E E0 then some (.e [d] [] (.tup [.dM,.int .i64 (meB k n es clock:Int)]) (σ.set d (.dI (gR k n z es clock) (qo k n es clock) K E (bU k enc (bN l n ((aY l n).getD za))))),
      ([.mpf aL,.int k' n'],[(0,.dI es' c 0 0 [])]))else none
    |_=>none)
   |_=>none)
  |_=>none)
 |_=>none
theorem aoo{α:Type}{T0 K0 E0:Nat}{k:IntKind}{n:Int}{z:Value}{l:List (Int×α)}{enc:α→AV}{za:α}{es:Array MapEntry}{clock:Nat}(hT:jD P T0 K0 E0 k)(hz:∀w,(zeroValue E0).run P w=.ok z w)(hzc:∀I,aB I (enc za) z){o:Oper}{N:Nat}{ids:List Nat}{env:Env}{σ:Sto}{s:Stp}{ob:Obs}
  (h:meF T0 K0 E0 k n z l enc za es clock o.op env σ=some (s,ob)) (he:ob=([.mpf (bU k enc l),.int k n],[(0,.dI es clock 0 0 [])])):cz ⟨P,N,ids⟩ o env σ s:=by
 cases ho:o.op<;>rw[ho]at h
 case mapEntry T x y=>
  simp only[meF]at h;split at h
  ·rename_i d hx;split at h
   ·rename_i k' n' hy;split at h
    ·rename_i es' c K E aL hd;cases hc:(Nat.beq T T0&&Nat.beq K K0&&Nat.beq E E0)with
     |false=>rw[hc]at h;cases h
     |true=>
      rw[hc]at h;simp only[Bool.and_eq_true]at hc;obtain⟨⟨c1,c2⟩,c3⟩:=hc;have:=Nat.eq_of_beq_eq_true c1;subst this
      have:=Nat.eq_of_beq_eq_true c2;subst this
      have:=Nat.eq_of_beq_eq_true c3;subst this
      cases h;simp only[Prod.mk.injEq,List.cons.injEq,AV.mpf.injEq,AV.int.injEq,br.dI.injEq,and_true,true_and]at he;obtain⟨⟨rfl,rfl,rfl⟩,rfl,rfl⟩:=he;exact⟨D.agm l enc za ho (Env.aG hx) (Env.aG hy) hd hT hz hzc,rfl⟩
    ·cases h
   ·cases h
  ·cases h
 all_goals (simp only[meF]at h;cases h)
def hme{α:Type}{T0 K0 E0:Nat}{k:IntKind}{z:Value}(n:Int)(l:List (Int×α))(enc:α→AV)(za:α)(es:Array MapEntry)(clock:Nat)(hT:jD P T0 K0 E0 k)(hz:∀w,(zeroValue E0).run P w=.ok z w)(hzc:∀I,aB I (enc za) z):Hint P:=
 .gs true ([.mpf (bU k enc l),.int k n],[(0,.dI es clock 0 0 [])]) (λ_=>meF T0 K0 E0 k n z l enc za es clock) λ_ _ _ _ _ _ _ h he=>aoo hT hz hzc h he
def esF{α:Type}(k:IntKind)(n:Int)(l:List (Int×α))(enc:α→AV)(a:α)(op:Op)(env:Env)(σ:Sto):Option (Stp×Obs):=match op with
 |.entryStore T x y v=>(match env.evo x with
  |some (.bX d)=>(match env.evo y with
   |some (.int kk b)=>(match env.evo v with
    |some av=>(match σ.get d with
     |some (.dI es c K E aL)=>some (.e [d] [] .undef (σ.set d (.map K E (bU k enc (bN l n a)))),([.mpf aL,.int kk b,av],[(0,.dI es c 0 0 [])]))
     |_=>none)
    |_=>none)
   |_=>none)
  |_=>none)
 |_=>none
theorem aop{α:Type}{k:IntKind}{n:Int}{z:Value}{l:List (Int×α)}{enc:α→AV}{a a0:α}{es:Array MapEntry}{clock:Nat}(hg:aY l n=some a0)(hc:(enc a).closed=true){o:Oper}{N:Nat}{ids:List Nat}{env:Env}{σ:Sto}{s:Stp}{ob:Obs}
  (h:esF k n l enc a o.op env σ=some (s,ob)) (he:ob=([.mpf (bU k enc l),.int .i64 (meB k n es clock:Int),enc a],[(0,.dI (gR k n z es clock) (qo k n es clock) 0 0 [])])):cz ⟨P,N,ids⟩ o env σ s:=by
 cases ho:o.op<;>rw[ho]at h
 case entryStore T x y v=>
  simp only[esF]at h;split at h
  ·rename_i d hx;split at h
   ·rename_i kk b hy;split at h
    ·rename_i av hv;split at h
     ·rename_i es' c K E aL hd;cases h;simp only[Prod.mk.injEq,List.cons.injEq,AV.mpf.injEq,AV.int.injEq,br.dI.injEq,and_true,true_and]at he;obtain⟨⟨rfl,⟨rfl,rfl⟩,rfl⟩,rfl,rfl⟩:=he;exact⟨D.adM l enc a ho (Env.aG hx) (Env.aG hy) (Env.aG hv) hc hd hg,rfl⟩
     ·cases h
    ·cases h
   ·cases h
  ·cases h
 all_goals (simp only[esF]at h;cases h)
def hes{α:Type}{k:IntKind}{a0:α}(n:Int)(z:Value)(l:List (Int×α))(enc:α→AV)(a:α)(es:Array MapEntry)(clock:Nat)(hg:aY l n=some a0)(hc:(enc a).closed=true):Hint P:=
 .gs true ([.mpf (bU k enc l),.int .i64 (meB k n es clock:Int),enc a],[(0,.dI (gR k n z es clock) (qo k n es clock) 0 0 [])]) (λ_=>esF k n l enc a) λ_ _ _ _ _ _ _ h he=>aop (z:=z) hg hc h he
def exF(di:Nat)(a:AV)(op:Op)(env:Env)(σ:Sto):Option (Stp×Obs):=match op with
 |.entry x=>(match env.evo x with
  |some (.ptr di' 0)=>(match σ.get di with
   |some (.ei es c aL seen)=>bif Nat.beq di' di then some (.y [di] a,([.mpf aL],[(0,.ei es c [] seen)]))else none
   |_=>none)
  |_=>none)
 |_=>none
theorem aoq{α:Type}{di clock i:Nat}{k:IntKind}{es:Array MapEntry}{seen:Array Nat}{e:MapEntry}{n:Int}{v:α}{l:List (Int×α)}{enc:α→AV}(hE:es[i]?=some e)(hl:l[i]?=some (n,v)){o:Oper}{N:Nat}{ids:List Nat}{env:Env}{σ:Sto}{s:Stp}{ob:Obs}
  (h:exF di (.tup [.int k n,enc v]) o.op env σ=some (s,ob)) (he:ob=([.mpf (bU k enc l)],[(0,.ei es clock [] (seen.push e.born))])):cz ⟨P,N,ids⟩ o env σ s:=by
 cases ho:o.op<;>rw[ho]at h
 case entry x=>
  simp only[exF]at h;split at h
  ·rename_i di' hx;split at h
   ·rename_i es' c aL seen' hd;cases hb:Nat.beq di' di with
    |false=>rw[hb]at h;cases h
    |true=>
     rw[hb]at h;have:=Nat.eq_of_beq_eq_true hb;subst this;cases h;simp only[Prod.mk.injEq,List.cons.injEq,AV.mpf.injEq,br.ei.injEq,and_true,true_and]at he;obtain⟨rfl,rfl,rfl,rfl⟩:=he;exact Y.aoh l enc ho (Env.aG hx) hd hE hl
   ·cases h
  ·cases h
 all_goals (simp only[exF]at h;cases h)
def hxe{α:Type}{es:Array MapEntry}{i:Nat}{e:MapEntry}{n:Int}{v:α}{l:List (Int×α)}(di clock:Nat)(k:IntKind)(seen:Array Nat)(enc:α→AV)(hE:es[i]?=some e)(hl:l[i]?=some (n,v)):Hint P:=
 .gs false ([.mpf (bU k enc l)],[(0,.ei es clock [] (seen.push e.born))]) (λ_=>exF di (.tup [.int k n,enc v])) λ_ _ _ _ _ _ _ h he=>aoq hE hl h he
end
end
section
variable {Post:AV→Sto→Prop}{env:Env}{σ:Sto}
theorem nO.mono{G:Gl}{fn:Func}{Post':AV→Sto→Prop}{e:Exit}(h:nO G fn Post e env σ)(hp:∀a s,Post a s→Post' a s):nO G fn Post' e env σ:=by
 obtain⟨bT,σ2,hw,hr⟩:=h;refine⟨bT,σ2,hw,?_⟩;cases e with
 |normal=>obtain⟨fz,x,r,σ',h1,h2,h3,h4⟩:=hr;exact⟨fz,x,r,σ',h1,h2,h3,hp _ _ h4⟩
 |ret=>obtain⟨fz,x,r,σ',h1,h2,h3,h4⟩:=hr;exact⟨fz,x,r,σ',h1,h2,h3,hp _ _ h4⟩
 |_=>exact hr
variable {N:Nat}{P:Program}{avs:List AV}{f:FuncId}
theorem D.aeW{ids:List Nat}{σc:Sto}{o:Oper}{c:Call}{ps0:List AV}(news:List Nat)(ho:o.op=.call c)(ha:pL env c=some (f,ps0))(hs:mF σc.ids σ ps0=some avs)(hat:σ.at σc.ids=some σc)
  (b1:news.all (λd=>!ids.contains d&&(σ.get d).isNone)=true) (b2:(σ.minus σc.ids).clean news.contains=true) (hok:∀r σ2,Post r σ2→r.refs (λd=>!(σc.ids++news).contains d)=false∧σ2.clean (λd=>!(σc.ids++news).contains d)=true) (pf:b9 P f σc avs Post) (hc:aO P f) :
  dU ⟨P,N,ids⟩ o env.ev σ (σc.ids++news) news (λr σ'=>∃σ2,Post r σ2∧σ'=σ2++σ.minus σc.ids):=by
 obtain⟨fo,args,k,cap,ps,rfl,hf,hp,rfl⟩:=oD ha;exact Z.ajf (G:=⟨P,N,ids⟩) (σ:=σ) news ho hf hc.h pf hp (nv hs) (Sto.iQ hat).1 b1 b2 hok
def ah2{P:Program}(tb:Tb)(ids:List Nat)(ops:Array Oper)(n:Nat)(ms:List Mv)(hs:List (Nat×Hint P))(env:Env)(σ:Sto):Option (Env×Sto×List Obs):=match uZ ids ms env σ with
 |none=>none
 |some (e0,s0)=>qn tb ids ops ⟨false,[],[]⟩ ((List.range n).map λi=>(i,hintOf hs i)) [] e0 s0
def aor{P:Program}(tb:Tb)(ids:List Nat)(ops:Array Oper)(n:Nat)(ms:List Mv)(hs:List (Nat×Hint P))(env:Env)(σ:Sto):Option (FuncId×List AV×List Obs):=match ah2 tb ids ops n ms hs env σ with
 |none=>none
 |some (e1,s1,obs)=>match ops[n]? with
  |none=>none
  |some o=>match o.guard with
   |some _=>none
   |none=>match o.op with
    |.call c=>(match pL e1 c with
     |none=>none
     |some (f,ps)=>match mF [] s1 ps with
      |none=>none
      |some avs=>some (f,avs,obs))
    |_=>none
def aos{P:Program}(tb:Tb)(ids:List Nat)(ops:Array Oper)(n:Nat)(l2:List Nat)(ms:List Mv)(hs hs2:List (Nat×Hint P))(env:Env)(σ:Sto)(av:AV)(ks ds:List Nat):Option (Env×Sto×List Obs):=match ah2 tb ids ops n ms hs env σ with
 |none=>none
 |some (e1,s1,_)=>match ops[n]? with
  |none=>none
  |some o=>match qn tb ids ops ⟨false,[],[]⟩ (l2.map λi=>(i,hintOf hs2 i)) [] (e1.put o.dst av) s1 with
   |none=>none
   |some (e2,s2,obs)=>match u0 [] ds s2 e2 ks with
    |none=>none
    |some e3=>match s2.at ds with
     |none=>none
     |some s3=>some (e3,s3,obs)
theorem A.RY{ids:List Nat}{tb:Tb}{Q:Exit→Env→Sto→Prop}{y:Code}(W:Wld P tb){id:Nat}{ops:Array Oper}(n:Nat)(l2:List Nat)(ms:List Mv)(hs:List (Nat×Hint P))(pf:b9 P f [] avs Post)(hc:aO P f)
  (hl:List.range ops.size=List.range n++n::l2) (hd:rK N ops=true) (h:aor tb ids ops n ms hs env σ=some (f,avs,(List.range n).map λi=>(hintOf hs i).exp)) (hok:∀r σ2,Post r σ2→r.refs (λd=>!([]:List Nat).contains d)=false∧σ2=[])
  (k:∀av σ2,Post av σ2→∃(hs2:List (Nat×Hint P)) (bT:Env) (σ3:Sto),aos tb ids ops n l2 ms hs hs2 env σ av (nM bT) σ3.ids=some (bT,σ3,l2.map λi=>(hintOf hs2 i).exp)∧af ⟨P,N,ids⟩ y Q bT σ3):af ⟨P,N,ids⟩ (.seq (.region id ops false) y) Q env σ:=by
 simp only[aor]at h;split at h
 ·cases h
 ·rename_i e1 s1 obs hx;split at h
  ·cases h
  ·rename_i o ho;split at h
   ·cases h
   ·rename_i hg;split at h
    ·rename_i c hop;split at h
     ·cases h
     ·rename_i f' ps ha;split at h
      ·cases h
      ·rename_i wO hse;simp only[Option.some.injEq,Prod.mk.injEq]at h;obtain⟨rfl,rfl,hob⟩:=h;have hx0:=hx;simp only[ah2]at hx;split at hx
       ·cases hx
       ·rename_i e0 s0 hm;refine A.weak (ql hm) (A.seq (A.RX W n l2 hs e1 s1 hl hd (by rw[hx,hob]) ho hg (D.aeW (σc:=[]) [] hop ha hse rfl rfl (Sto.gi _) (λr σ2 hp=>?_) pf hc) (Env.gi _) rfl ?_))
        ·obtain⟨g1,g2⟩:=hok r σ2 hp;exact⟨g1,by rw[g2];rfl⟩
        ·rintro av σ' ⟨σ2,hp,rfl⟩;obtain⟨g1,g2⟩:=hok av σ2 hp;subst g2;obtain⟨hs2,bT,σ3,p1,p2⟩:=k av [] hp;rw[show([]:Sto)++s1.minus (Sto.ids [])=s1 from ta s1];simp only[aos,hx0,ho]at p1;split at p1
         ·cases p1
         ·rename_i e2 s2 obs2 hr2;split at p1
          ·cases p1
          ·rename_i e3 hk3;split at p1
           ·cases p1
           ·rename_i s3 hs3;simp only[Option.some.injEq,Prod.mk.injEq]at p1;obtain⟨rfl,rfl,ho2⟩:=p1;exact⟨hs2,e2,s2,by rw[hr2,ho2],A.weak (aU.of (sJ hk3) (Sto.iQ hs3).1) p2⟩
    ·cases h
noncomputable def acN{α β:Type}(P:α→Prop)(K:α→Option β):Option β:=@dite _ (∃r,(∃a,P a)∧∀a,P a→K a=some r) (Classical.propDecidable _) (λh=>some (Classical.choose h)) (λ_=>none)
variable {α β:Type}{K:α→Option β}{r:β}
theorem agp{P:α→Prop}(h:acN P K=some r):∀a,P a→K a=some r:=by
 unfold acN at h;split at h
 ·rename_i hx;have:=(Classical.choose_spec hx).2;rw[Option.some.inj h]at this;exact this
 ·cases h
theorem alF{P:α→Prop}(h1:∃a,P a)(h:∀a,P a→K a=some r):acN P K=some r:=by
 unfold acN;have hx:∃r,(∃a,P a)∧∀a,P a→K a=some r:=⟨r,h1,h⟩;rw[dif_pos hx];obtain⟨a,ha⟩:=h1;have:=(Classical.choose_spec hx).2 a ha;rw[h a ha]at this;exact this.symm
end
end Go.Proofs.YtmnbolcmepihlaaGreat
