/- Cells bq are held still for good; the tail of a slice bq is cleared; a slice of af4 own cut behind. No condition but bH bq stand in each. -/
import Derived.Test.YtjdopimopgpagaaGreatB7
import Derived.Test.YtjdopimopgpagaaGreatA18
namespace Go.Proofs.YtjdopimopgpagaaGreat
set_option linter.all false
open Go
section
theorem bY.row{I I':Imm}(hle:bT I I'){b:Nat}:∀(cs:List AV) (vs:List Value) (o:Nat),bY I cs vs→(∀j,j<vs.length→I' b ((o+j:Nat):Option Nat)=vs[j]?)→iw I' b cs o
 |[],_,_,_,_=>by simp[iw]
 |x::r,vs,o,h,hj=>by
  simp only[bY]at h
  obtain⟨u,us,rfl,h1,h2⟩:=h
  simp only[iw]
  refine⟨⟨u,?_,dA hle _ _ h1⟩,bY.row hle r us (o+1) h2 λj hj'=>?_⟩
  ·have:=hj 0 (by simp)
   simpa using this
  ·have:=hj (j+1) (by simp;omega)
   rw[show o+1+j=o+(j+1)by omega]
   simpa using this
theorem bA.lp{G:Gl}{env:Env}{σ:Sto}(t C:Nat){T:Nat}{cs:List AV}(ht:env.get t=.ptr C 0)(hC:σ.get C=some (.cells T cs))(hc:fm cs=true):bA G env σ ((t,.dZ cs)::env) (σ.minus [C]):=by
 intro cx I β a w h h'
 have ho:=h.cz C _ hC
 simp only[aS]at ho
 have hp:=h' t
 rw[ht]at hp
 simp only[Rep]at hp
 obtain⟨b,hb,hpv⟩:=hp
 rcases ho with q|⟨b',arr,q1,q2,q3,q4,q5⟩
 ·rw[q]at hb;simp[blk]at hb
 ·have hbb:b'=b:=by rw[q1]at hb;simpa [blk]using hb
  subst hbb
  let I':Imm:=I.on λb1 o=>if b1=b' then arr[o]? else I b1 o
  have hle:bT I I':=λb1 o v hv=>by
   cases o with
   |none=>exact hv
   |some o=>
   show(if b1=b' then arr[o]? else I b1 o)=some v
   split
   ·rename_i hh
    subst hh
    rw[q4]at hv;cases hv
   ·exact hv
  have jh:∀b1 o,b1≠b'→I' b1 o=I b1 o:=λb1 o hne=>by
   cases o with
   |none=>rfl
   |some o=>
   show(if b1=b' then arr[o]? else I b1 o)=_
   rw[if_neg hne]
  have hmin:∀d o,(σ.minus [C]).get d=some o→d≠C∧σ.get d=some o:=λd o hd=>by
   rw[Sto.eP]at hd
   split at hd
   ·cases hd
   ·rename_i hm;exact⟨by simpa using hm,hd⟩
  have aj1:∀d,((σ.minus [C]).get d).isSome→(σ.get d).isSome:=λd hd=>by
   obtain⟨o,ho⟩:=Option.isSome_iff_exists.1 hd
   rw[(hmin d o ho).2];rfl
  have hrow:iw I' b' cs 0:=bY.row hle cs arr.toList 0 (xY hc q3) λj hj=>by
   show(if b'=b' then arr[0+j]? else I b' (some (0+j)))=_
   rw[if_pos rfl];simp
  refine⟨I',β,{good:=λb1 o v hv=>?_,eY:=h.eY,gK:=λb1 o v hv=>hle _ _ _ (h.gK _ _ _ hv),iZ:=λb1 hb1 hn o=>?_,frame:=h.frame,size:=h.size,tape:=h.tape,os:=h.os,output:=h.output,drawn:=h.drawn,cz:=λd o hd=>?_,cW:=λd d' hd hd'=>h.cW d d' (aj1 d hd) (aj1 d' hd'),keep:=h.keep},λt'=>?_⟩
  ·change (if b1=b' then arr[o]? else I b1 o)=some v at hv
   split at hv
   ·rename_i hh
    subst hh
    simp only[World.cell?,q2]
    simpa using hv
   ·exact h.good b1 o v hv
  ·have hne:b1≠b':=λe=>by
    subst e
    rcases q5 with q|q
    ·omega
    ·exact hn q
   rw[jh b1 o hne]
   exact h.iZ b1 hb1 hn o
  ·obtain⟨hd1,hd2⟩:=hmin d o hd
   refine(h.cz d o hd2).imm hle jh λb1 hb1 e'=>?_
   subst e'
   exact h.cW d C (by rw[hd2];rfl) (by rw[hC];rfl) hd1 b1 hb1 (iO hb)
  ·rw[Env.bz]
   split
   ·rename_i e;subst e
    simp only[Rep,bg]
    exact⟨b',0,hpv,hrow⟩
   ·exact(h'.mono hle (HLe.refl β)) t'
theorem aa2{a:Act}{t:Nat}{v:Value}(h:t<a.tmps.size):(a.put (some t) v).eval (.tmp t)=v:=by
 simp[Act.put,Act.eval,Array.getD,h]
theorem zg{a:Act}{t t':Nat}{v:Value}(h:t≠t'):(a.put (some t) v).eval (.tmp t')=a.eval (.tmp t'):=by
 simp[Act.put,Act.eval,Array.getD_eq_getD_getElem?,Array.getElem?_setIfInBounds,h]
theorem u9{P:Program}{ops:Array Oper}{Q:Exit→Act→World→Prop}{i:Nat}{l:List Nat}{a:Act}{w w':World}{o:Oper}{v:Value}(ho:ops[i]?=some o)(hg:o.guard=none)(hr:(execOp a.eval o).run P w=.ok (.value v) w')
  (k:wpOps P ops Q l (a.put o.dst v) w'):wpOps P ops Q (i::l) a w:=by
 have hw:Region.wanted o (yielded ops a.tmps)=true:=by simp[Region.wanted,hg]
 simp only[wpOps,ho,hw,if_true]
 exact .inl (me.wp (Φ:=λv' w1=>v'=v∧w1=w') (by rw[hr];exact⟨rfl,rfl⟩) λv' w1 h=>by obtain⟨rfl,rfl⟩:=h;exact k)
theorem x7{α:Type}{sz:Nat}:∀(xs:List (List α)) (n:Nat),(∀e∈xs,e.length=sz)→(xs.take n).flatten=xs.flatten.take (n*sz)
 |[],_,_=>by simp
 |x::r,0,_=>by simp
 |x::r,n+1,h=>by
  have hx:=h x (by simp)
  rw[List.take_succ_cons,List.flatten_cons,List.flatten_cons,x7 r n λe he=>h e (by simp[he]),Nat.add_mul,Nat.one_mul,Nat.add_comm (n*sz) sz,List.take_append,hx]
  rw[List.take_of_length_le (l:=x) (by omega),Nat.add_sub_cancel_left]
theorem xd(z:Array Value):∀m,(Builtin.zeroCells z m).toList=(List.replicate m z.toList).flatten:=by
 intro m
 apply List.ext_getElem?
 intro j
 induction m generalizing j with
 |zero=>simp[Builtin.zeroCells]
 |succ m ih=>
  rw[List.replicate_succ,List.flatten_cons]
  unfold Builtin.zeroCells at ih ⊢
  simp only[Array.toList_map,List.getElem?_map,Array.toList_range]at ih ⊢
  by_cases hj:j<z.size
  ·rw[List.getElem?_append_left (by simpa using hj),List.getElem?_range (by rw[Nat.add_mul];omega)]
   simp[Nat.mod_eq_of_lt hj,hj]
  ·rw[List.getElem?_append_right (by simpa using hj)]
   have:=ih (j-z.size)
   simp only[Array.length_toList]
   rw[←this]
   by_cases hj2:j<(m+1)*z.size
   ·rw[List.getElem?_range hj2,List.getElem?_range (by rw[Nat.add_mul]at hj2;omega)]
    simp[←Nat.mod_eq_sub_mod (by omega:j≥z.size)]
   ·rw[List.getElem?_eq_none (by simp;omega),List.getElem?_eq_none (by simp;rw[Nat.add_mul]at hj2;omega)]
theorem adf{I:Imm}{zr:List AV}{zs:List Value}(h:bY I zr zs):∀m,bY I (List.replicate m zr).flatten (List.replicate m zs).flatten
 |0=>by simp[bY]
 |m+1=>by
  rw[List.replicate_succ,List.flatten_cons,List.replicate_succ,List.flatten_cons]
  exact(cS _ _ _).2 ⟨_,_,rfl,h,adf h m⟩
theorem ahE{α:Type}(m:Nat)(l:List α):(List.replicate m l).flatten.length=m*l.length:=by
 induction m with
 |zero=>simp
 |succ m ih=>rw[List.replicate_succ,List.flatten_cons,List.length_append,ih,Nat.add_mul];omega
theorem aoM{α:Type}(e:En α)(l:List α)(n:Nat)(z:α):(ml e l).take n++List.replicate ((ml e l).length-n) (e.enc z)=ml e (l.take n++List.replicate (l.length-n) z):=by simp[ml,List.map_take]
theorem ash{α:Type}(e:En α){l:List α}{i:Int}(h:0≤i∧i<(l.length:Int)):0≤i∧i<((ml e l).length:Int):=by rw[gQ];exact h
theorem A.clr{G:Gl}{Q:Exit→Env→Sto→Prop}{env:Env}{σ:Sto}{id T:Nat}(ts ti t1 t2 t3 E sz d:Nat){o0 o1 o2 o3:Oper}{xs:List (List AV)}{i:Int}{z:Value}{zr:List AV}
  (h0:o0.op=.move (.tmp ts)∧o0.dst=some t1∧o0.guard=none) (h1:o1.op=.move (.tmp ti)∧o1.dst=some t2∧o1.guard=none)
  (h2:o2.op=.slice T (.tmp t1) (some (.tmp t2)) none none∧o2.dst=some t3∧o2.guard=none) (h3:o3.op=.call ⟨.builtin .clear,#[.tmp t3],#[T]⟩∧o3.dst=none∧o3.guard=none)
  (hN:t1<G.N∧t2<G.N∧t3<G.N) (hne:t1≠t2∧t1≠t3∧t2≠t3∧t1≠ti) (hT:SlS G.P T E sz) (hz:∀w,(zeroValue E).run G.P w=.ok z w) (hz1:∀v∈z.cells.toList,v.oneCell'=true) (hzr:∀I,bY I zr z.cells.toList) (hzl:z.cells.size=sz)
  (hs:env.get ts=.own d) (hi:env.get ti=.int .i64 i) (hd:σ.get d=some (.slice E sz xs 0 false)) (hir:0≤i∧i<xs.length) (he:env.get t1=.eS∧env.get t2=.eS∧env.get t3=.eS)
  {ys:List (List AV)} (hys:xs.take i.toNat++List.replicate (xs.length-i.toNat) zr=ys) (k:Q .normal env (σ.set d (.slice E sz ys 0 false))):ay G (.region id #[o0,o1,o2,o3] false) Q env σ:=by
 subst hys
 refine ay.of λcx a w hr=>?_
 obtain⟨I,β,hw,ht,hsz,hdf⟩:=hr
 have e1:=ht ts;rw[hs]at e1;simp only[Rep]at e1
 obtain⟨e1,e1'⟩:=e1
 have e2:=ht ti;rw[hi]at e2;have e2:=fq e2
 have ho:=hw.cz d _ hd
 simp only[aS]at ho
 rcases ho with q|⟨q,q2,_⟩|⟨b,cap,arr,q1,q2,q3,q4,q5,q6,q7,q8,q9,q10,q11⟩
 ·rw[e1,q]at e1';cases e1'
 ·subst q2;simp at hir;omega
 obtain⟨n,rfl⟩:∃n:Nat,i=(n:Int):=⟨i.toNat,by omega⟩
 have hn:n<xs.length:=by omega
 simp only[Int.toNat_natCast]at k ⊢
 have e0:a.eval (.tmp ts)=.slice (some ⟨b,0,none⟩) xs.length cap:=by rw[←q1];exact e1
 have e2:a.eval (.tmp ti)=.int .i64 n:=e2
 obtain⟨a1,ha1⟩:∃a1,a1=a.put (some t1) (.slice (some ⟨b,0,none⟩) xs.length cap):=⟨_,rfl⟩
 obtain⟨a2,ha2⟩:∃a2,a2=a1.put (some t2) (.int .i64 n):=⟨_,rfl⟩
 obtain⟨a3,ha3⟩:∃a3,a3=a2.put (some t3) (.slice (some ⟨b,n*sz,none⟩) (xs.length-n) (cap-n)):=⟨_,rfl⟩
 have s1:a1.tmps.size=G.N:=by rw[ha1,pW];exact hsz
 have s2:a2.tmps.size=G.N:=by rw[ha2,pW];exact s1
 have s3:a3.tmps.size=G.N:=by rw[ha3,pW];exact s2
 have v1:a2.eval (.tmp t1)=.slice (some ⟨b,0,none⟩) xs.length cap:=by rw[ha2,zg (Ne.symm hne.1),ha1,aa2 (by rw[hsz];exact hN.1)]
 have v2:a2.eval (.tmp t2)=.int .i64 n:=by rw[ha2,aa2 (by rw[s1];exact hN.2.1)]
 have v3:a3.eval (.tmp t3)=.slice (some ⟨b,n*sz,none⟩) (xs.length-n) (cap-n):=by rw[ha3,aa2 (by rw[s2];exact hN.2.2)]
 have hcap:cap≠n:=by omega
 have r2:(execOp a2.eval o2).run G.P w=.ok (.value (.slice (some ⟨b,n*sz,none⟩) (xs.length-n) (cap-n))) w:=by
  have w1:(Instr.sliceBounds true xs.length cap (some (.int .i64 n)) none none).run G.P w=.ok (n,xs.length,cap) w:=by
   have:=run_sliceBound (P:=G.P) (k:=.i64) (n:=(n:Int)) (y:=xs.length) (code:=.sliceB) (w:=w) ⟨by omega,by omega⟩
   simp[Instr.sliceBounds,this]
  have w2:∀w,(underlying T).run G.P w=.ok (.slice E) w:=λw=>run_underlying hT.und w
  simp only[execOp,h2.1,Instr.sliceAt,Instr.slice,v1,Option.map_some,v2,Sem.run_bind,w2,Result.andThen_ok,w1,hT.size,Sem.run_pure,Option.map_none]
  rw[if_neg hcap]
  simp only[Addr.add_lit,Option.map_some,Nat.zero_add]
 have aoN:z.cells.toList.length=sz:=by rw[←hzl,Array.length_toList]
 obtain⟨A,hA⟩:∃A,A=(arr.toList.take (n*sz)++(Builtin.zeroCells z.cells (xs.length-n)).toList++arr.toList.drop (n*sz+(Builtin.zeroCells z.cells (xs.length-n)).toList.length)).toArray:=⟨_,rfl⟩
 have aja:(Builtin.zeroCells z.cells (xs.length-n)).toList.length=(xs.length-n)*sz:=by rw[xd,ahE,aoN]
 have hm1:n*sz+(xs.length-n)*sz=xs.length*sz:=by rw[←Nat.add_mul];congr 1;omega
 have hm2:xs.length*sz≤cap*sz:=Nat.mul_le_mul_right _ q2
 have r3:(execOp a3.eval o3).run G.P w=.ok (.value (.tuple #[])) (w.setRow b A):=by
  have:=xb (P:=G.P) w T E o3.type z hT.und hz b (n*sz) (xs.length-n) (cap-n) arr E q4 (by omega) (by rw[aja,q5];omega) (yQ hz1 _)
  rw[←hA]at this
  simp only[execOp,h3.1]
  have q:a3.tmps.getD t3 undef=_:=v3
  simp[resolve,invoke,builtin,v3,this,Result.andThen]
 have main:qJ G cx env (σ.set d (.slice E sz (xs.take n++List.replicate (xs.length-n) zr) 0 false)) a3 (w.setRow b A):=by
  refine⟨I,β,?_,λt=>?_,s3,by rw[ha3,mM,ha2,mM,ha1,mM];exact hdf⟩
  ·have hb:blk (β d)=some b:=by rw[q1];rfl
   refine hw.turn (d:=d) (Kept.setRow w b _) q11 (λx hx=>by rw[Sto.iR,if_neg hx]) (λx hx hs e=>hw.cW x d hs (by rw[hd];rfl) hx b e (iO hb)) (bT.refl I) (λ_ _ _=>rfl)
    (λo v hv=>by rw[q10 o (by omega)]at hv;cases hv) (hw.lI q4) (λ_ _=>rfl) (.inr rfl) (HLe.refl β) (.inl hb) λob hob=>?_
   rw[Sto.iR,if_pos rfl,hd]at hob
   injection hob with hob
   subst hob
   have hll:(xs.take n++List.replicate (xs.length-n) zr).length=xs.length:=by simp;omega
   simp only[aS,hll]
   have hzr2:zr.length=sz:=by rw[←aoN];exact(dB _ _ (hzr I)).symm
   refine .inr (.inr ⟨b,cap,A,q1,q2,q3,setRow_heap w b arr A E _ q4,?_,?_,?_,Nat.zero_le _,(λh=>by cases h),q10,q11⟩)
   ·rw[hA];simp only[List.size_toArray,List.length_append,List.length_take,List.length_drop,Array.length_toList,aja,q5];omega
   ·rw[List.flatten_append,x7 xs n q7]
    have hA2:A.toList.take (xs.length*sz)=(arr.toList.take (xs.length*sz)).take (n*sz)++(List.replicate (xs.length-n) z.cells.toList).flatten:=by
     rw[hA,←xd,List.take_take,Nat.min_eq_left (by omega)]
     refine List.take_left' ?_
     rw[List.length_append,List.length_take,aja,Array.length_toList,q5];omega
    rw[hA2]
    refine(cS _ _ _).2 ⟨_,_,rfl,?_,adf (hzr I) _⟩
    have e5:xs.flatten=xs.flatten.take (n*sz)++xs.flatten.drop (n*sz):=(List.take_append_drop _ _).symm
    rw[e5]at q6
    obtain⟨us,ws,u1,u2,u3⟩:=(cS _ _ _).1 q6
    have ul:us.length=n*sz:=by
     rw[dB _ _ u2,List.length_take,jd xs q7];exact Nat.min_eq_left (by omega)
    rw[u1,List.take_left' ul];exact u2
   ·intro e he
    rcases List.mem_append.1 he with he|he
    ·exact q7 e (List.mem_of_mem_take he)
    ·rw[(List.mem_replicate.1 he).2];exact hzr2
  ·by_cases c1:t=t1
   ·subst c1;rw[he.1];simp[Rep]
   by_cases c2:t=t2
   ·subst c2;rw[he.2.1];simp[Rep]
   by_cases c3:t=t3
   ·subst c3;rw[he.2.2];simp[Rep]
   have:a3.eval (.tmp t)=a.eval (.tmp t):=by rw[ha3,zg (Ne.symm c3),ha2,zg (Ne.symm c2),ha1,zg (Ne.symm c1)]
   have h5:=ht t
   change Rep I β (env.get t) (a.eval (.tmp t))at h5
   rw[←this]at h5
   exact h5
 refine wp_region ?_
 show wpOps G.P #[o0,o1,o2,o3] _ [0,1,2,3] a w
 refine u9 (o:=o0) (v:=.slice (some ⟨b,0,none⟩) xs.length cap) (w':=w) rfl h0.2.2 (by simp only[execOp,h0.1];simp[e0]) ?_
 rw[h0.2.1,←ha1]
 have v4:a1.eval (.tmp ti)=.int .i64 n:=by rw[ha1,zg hne.2.2.2];exact e2
 refine u9 (o:=o1) (v:=.int .i64 n) (w':=w) rfl h1.2.2 (by simp only[execOp,h1.1];simp[v4]) ?_
 rw[h1.2.1,←ha2]
 refine u9 (o:=o2) rfl h2.2.2 r2 ?_
 rw[h2.2.1,←ha3]
 refine u9 (o:=o3) rfl h3.2.2 r3 ?_
 rw[h3.2.1]
 exact⟨env,_,main,k⟩
end
section
variable {G:Gl}{o:Oper}{ev:Operand→AV}{σ:Sto}
theorem aem{I:Imm}:∀{xs:List AV} {vs:List Value} (n:Nat),bY I xs vs→bY I (xs.take n) (vs.take n)
 |[],vs,n,h=>by simp only[bY]at h;subst h;simp[bY]
 |x::r,vs,0,h=>by simp[bY]
 |x::r,vs,n+1,h=>by
  simp only[bY]at h
  obtain⟨u,us,rfl,h1,h2⟩:=h
  simp only[List.take_succ_cons,bY]
  exact⟨u,_,rfl,h1,aem n h2⟩
theorem D.cutT{T E sz T' d d2:Nat}{x y:Operand}{xs:List (List AV)}{k:IntKind}{n:Int}(h:o.op=.slice T x none (some y) none)(hx:ev x=.own d)(hy:ev y=.int k n)(hd:σ.get d=some (.slice T' sz xs 0 false))(hT:SlS G.P T E sz)
  (hn:0≤n∧n≤xs.length) (hi:G.ids.contains d2=false) (hc:(σ.minus [d]).clean [d2].contains=true) :
  kX G o ev σ [d,d2] [d2] (λr σ'=>r=.own d2∧σ'=(d2,.slice T' sz (xs.take n.toNat) 0 false)::σ.minus [d]):=by
 intro cx I β w ρ hw hop
 have hs1:=hop x (by simp[h,Op.operands])
 rw[hx]at hs1
 simp only[Rep]at hs1
 obtain⟨hs1,hs2⟩:=hs1
 have hs3:=hop y (by simp[h,Op.operands])
 rw[hy]at hs3
 have hs3:=fq hs3
 have hw1:bU G cx I β (σ.minus [d]) w:=hw.sub λx ob hx=>by rw[Sto.eP]at hx;split at hx<;>first|cases hx|exact hx
 have ho:=hw.cz d _ hd
 simp only[aS]at ho
 have run:∀(a:Option Addr) (c:Nat),ρ x=.slice a xs.length c→xs.length≤c→(execOp ρ o).run G.P w=.ok (.value (.slice (if c=0 then a else a.map (·.add (0*sz))) n.toNat c)) w:=by
  intro a c h1 h2
  have e1:(Instr.sliceBounds true xs.length c none (some (.int k n)) none).run G.P w=.ok (0,n.toNat,c) w:=by
   have:=run_sliceBound (P:=G.P) (k:=k) (n:=n) (y:=c) (code:=.sliceAcap) (w:=w) ⟨hn.1,by omega⟩
   simp[Instr.sliceBounds,this]
  have e2:∀w,(underlying T).run G.P w=.ok (.slice E) w:=λw=>run_underlying hT.und w
  simp only[execOp,h,Instr.sliceAt,Instr.slice,h1,Sem.run_bind,e2,Result.andThen_ok,Option.map_some,Option.map_none,hs3,e1,hT.size,Sem.run_pure,Nat.sub_zero]
 have fin:∀(v':Value),(execOp ρ o).run G.P w=.ok (.value v') w→j8 v'=true→(∀b∈fA v',b∈fA (β d))→aS cx I (jN β d2 v') w d2 (.slice T' sz (xs.take n.toNat) 0 false)→
   me G.P (λv w'=>∃(av:AV) (σ':Sto) (I':Imm) (β':Nat→Value),(av=.own d2∧σ'=(d2,cM.slice T' sz (xs.take n.toNat) 0 false)::σ.minus [d])∧Rep I' β' av v∧bU G cx I' β' σ' w'∧bT I I'∧(∀x,x∉[d2]→β' x=β x)∧(∀x,x∉[d,d2]→σ'.get x=σ.get x)) ((execOp ρ o).run G.P w):=by
  intro v' hrun hsl hbd hob
  rw[hrun]
  refine⟨.own d2,_,I,jN β d2 v',⟨rfl,rfl⟩,by simp only[Rep,cC,hsl,and_self],?_,bT.refl I,λx hx=>eA β v' (by simpa using hx),λx hx=>?_⟩
  ·have hb0:∀x,[d2].contains x=false→jN β d2 v' x=β x:=λx hx=>eA β v' (by simpa using hx)
   refine{hw1 with cz:=λx ob hx=>?_,cW:=λx y hx hy hne b=>?_,keep:=λx hx=>?_}
   ·rw[Sto.bz]at hx
    split at hx
    ·rename_i e;subst e;cases hx;exact hob
    ·obtain⟨c1,c2⟩:=Sto.dQ hc x ob hx
     exact(hw1.cz x ob hx).beta hb0 c1 c2
   ·have side:∀x,(Sto.get ((d2,cM.slice T' sz (xs.take n.toNat) 0 false)::σ.minus [d]) x).isSome→x≠d2→(σ.get x).isSome∧x≠d:=λx hx hn=>by
     rw[Sto.bz,if_neg (Ne.symm hn),Sto.eP]at hx
     split at hx
     ·cases hx
     ·rename_i hm;exact⟨hx,by simpa using hm⟩
    by_cases hx2:x=d2
    ·subst hx2
     have hy2:y≠x:=λe=>hne e.symm
     obtain⟨s1,s2⟩:=side y hy hy2
     rw[cC,eA β v' hy2]
     intro e1 e2
     exact hw.cW y d s1 (by rw[hd];rfl) s2 b e2 (hbd b e1)
    ·obtain⟨s1,s2⟩:=side x hx hx2
     rw[eA β v' hx2]
     by_cases hy2:y=d2
     ·subst hy2
      rw[cC]
      intro e1 e2
      exact hw.cW x d s1 (by rw[hd];rfl) s2 b e1 (hbd b e2)
     ·obtain⟨t1,t2⟩:=side y hy hy2
      rw[eA β v' hy2]
      exact hw.cW x y s1 t1 hne b
   ·have:x≠d2:=λe=>by subst e;rw[←Bool.not_eq_true]at hi;exact hi (by simpa using hx)
    rw[eA β v' this];exact hw.keep x hx
  ·have hx:x≠d∧x≠d2:=by simpa using hx
   rw[Sto.bz,if_neg (Ne.symm hx.2),Sto.eP,if_neg (by simpa using hx.1)]
 rcases ho with q|⟨q,rfl,_⟩|⟨b,cap,arr,q1,q2,q3,q4,q5,q6,q7,q8,q9,q10,q11⟩
 ·rw[q]at hs1;rw[hs1]at hs2;simp[j8]at hs2
 ·have hl0:n=0:=by simp at hn;omega
  subst hl0
  refine fin _ (run none 0 (by rw[hs1,q];rfl) (by simp)) rfl (by simp[fA,blk]) ?_
  simp only[aS,cC];exact .inr (.inl ⟨by simp,by simp,trivial⟩)
 ·have hln:n.toNat≤xs.length:=by omega
  refine fin _ (run _ cap (by rw[hs1,q1]) q2) rfl ?_ ?_
  ·intro b' hb'
   rw[q1]
   split at hb'
   ·exact hb'
   ·simp only[Option.map_some,ff]at hb';exact hb'
  ·simp only[aS,cC]
   have hlen:(xs.take n.toNat).length=n.toNat:=by simp;omega
   refine .inr (.inr ⟨b,cap,arr,?_,by rw[hlen];omega,q3,q4,q5,?_,λe he=>q7 e (List.mem_of_mem_take he),Nat.zero_le _,λh=>by simp at h,q10,q11⟩)
   ·rw[hlen];split<;>simp[ff]
   ·rw[hlen,x7 _ _ q7]
    have:=aem (n.toNat*sz) q6
    rwa [List.take_take,Nat.min_eq_left (Nat.mul_le_mul_right _ hln)]at this
end
section
variable {P:Program}
def cuG(T0 d2 sz:Nat)(zs:List (List AV))(ids:List Nat)(op:Op)(env:Env)(σ:Sto):Option (Stp×Obs):=match op with
 |.slice T x none (some y) none=>(match env.evo x with
  |some (.own d)=>(match env.evo y with
   |some (.int k n)=>(match σ.get d with
    |some (.slice T' sz' xs 0 false)=>bif Nat.beq T T0&&Nat.beq sz' sz&&!ids.contains d2&&(σ.minus [d]).clean [d2].contains then some (.e [d,d2] [d2] (.own d2) ((d2,.slice T' sz' zs 0 false)::σ.minus [d]),([.lst false xs,.int .i64 n],[]))else none
    |_=>none)
   |_=>none)
  |_=>none)
 |_=>none
theorem aoO{T0 E d2 sz:Nat}{xs zs:List (List AV)}{n:Int}(hT:SlS P T0 E sz)(pf:Sl sz xs 0 n zs){o:Oper}{N:Nat}{ids:List Nat}{env:Env}{σ:Sto}{s:Stp}{ob:Obs}
  (h:cuG T0 d2 sz zs ids o.op env σ=some (s,ob)) (he:ob=([.lst false xs,.int .i64 n],[])):gr ⟨P,N,ids⟩ o env σ s:=by
 cases ho:o.op<;>rw[ho]at h
 case slice T x lo hi mx=>
  cases lo with
  |some m=>simp only[cuG]at h;cases h
  |none=>
  cases hi with
  |none=>simp only[cuG]at h;cases h
  |some y=>
  cases mx with
  |some m=>simp only[cuG]at h;cases h
  |none=>
   simp only[cuG]at h
   split at h
   ·rename_i d hx
    split at h
    ·rename_i k n' hy
     split at h
     ·rename_i T' sz' xs' hd
      generalize hb:(Nat.beq T T0&&_&&_&&_)=bb at h
      cases bb with
      |false=>cases h
      |true=>
       simp only[cond_true]at h
       simp only[Bool.and_eq_true,Bool.not_eq_true']at hb
       obtain⟨⟨⟨b1,b2⟩,b3⟩,b4⟩:=hb
       have:=Nat.eq_of_beq_eq_true b1
       subst this
       have:=Nat.eq_of_beq_eq_true b2
       subst this
       cases h
       simp only[Prod.mk.injEq,List.cons.injEq,AV.lst.injEq,AV.int.injEq,and_true,true_and]at he
       obtain⟨rfl,rfl⟩:=he
       obtain⟨p1,p2,p3⟩:=pf
       refine⟨?_,by simpa using b3⟩
       have hD:=D.cutT (G:=⟨P,N,ids⟩) (d2:=d2) ho (Env.bB hx) (Env.bB hy) hd hT ⟨by omega,p2.2.2⟩ b3 b4
       rw[←p3]
       simpa using hD
     ·cases h
    ·cases h
   ·cases h
 all_goals (simp only[cuG]at h;cases h)
def hcB{T0 E sz:Nat}(d2:Nat){xs zs:List (List AV)}{n:Int}(hT:SlS P T0 E sz)(pf:Sl sz xs 0 n zs):Hint P:=
 .gs true ([.lst false xs,.int .i64 n],[]) (λids=>cuG T0 d2 sz zs ids) λ_ _ _ _ _ _ _ h he=>aoO hT pf h he
theorem Yields.cfn{G:Gl}{o:Oper}{ev:Operand→AV}{σ:Sto}{mat R:List Nat}{f:Nat}{l:List AV}(h:Yields G o ev σ mat R (.fn f l))(hc:fm l=true):Yields G o ev σ mat R (.cfn f l):=λσ' cx I β w ρ hR hw hm hop=>by
 have:=h σ' cx I β w ρ hR hw hm hop
 generalize (execOp ρ o).run G.P w=r at this
 have key:∀v w',(∃I' β',Rep I' β' (.fn f l) v∧bU G cx I' β' σ' w'∧bT I I'∧(∀d,d∉mat→β' d=β d))→∃I' β',Rep I' β' (.cfn f l) v∧bU G cx I' β' σ' w'∧bT I I'∧(∀d,d∉mat→β' d=β d):=λv w' ⟨I',β',h1,h2⟩=>by
  simp only[Rep]at h1
  obtain⟨vs,rfl,h3⟩:=h1
  exact⟨I',β',by simp only[Rep,bg];exact⟨vs,rfl,xY hc h3⟩,h2⟩
 cases r with
 |halt x w'=>exact this.elim
 |ok n w'=>cases n with
  |value v=>exact key _ _ this
  |skip=>exact key _ _ this
  |enter f args=>exact Calls.mono this λe w'' ⟨v,h1,h2⟩=>⟨v,h1,key _ _ h2⟩
  |_=>exact this.elim
def cfE(op:Op)(env:Env):Option (Stp×Obs):=match op with
 |.makeFunc (.func f) first cap=>match first.toList with
  |[]=>(match env.qb cap.toList with
   |some l=>bif fm l then some (.y [] (.cfn f l),([],[]))else none
   |_=>none)
  |_=>none
 |_=>none
theorem aoP{o:Oper}{N:Nat}{ids:List Nat}{env:Env}{σ:Sto}{s:Stp}{ob:Obs}(h:cfE o.op env=some (s,ob)):gr ⟨P,N,ids⟩ o env σ s:=by
 unfold cfE at h
 split at h
 ·rename_i f first cap ho
  split at h
  ·rename_i hf
   split at h
   ·rename_i l hl
    cases hc:fm l with
    |false=>rw[hc]at h;cases h
    |true=>
     rw[hc]at h;cases h
     have e1:first=#[]:=by simpa using congrArg List.toArray hf
     subst e1
     exact Yields.cfn (Z.makeFunc ho hl) hc
   ·cases h
  ·cases h
 ·cases h
def hcf:Hint P:=.gs false ([],[]) (λ_ op env _=>cfE op env) λ_ _ _ _ _ _ _ h _=>aoP h
end
end Go.Proofs.YtjdopimopgpagaaGreat
