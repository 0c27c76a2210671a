/- acC pN frozen maps; regions with an operation jH answer is one of many. No condition but aX aH stand in each. -/
import Derived.Test.YtmnbolcmepihlaaC7
namespace Go.Proofs.Ytmnbolcmepihlaa
set_option linter.all false
open Go
open Go.ChangeMaps (setBlock)
section cert
variable {G:Gl}{ops:Array Oper}{K:Env→Sto→Prop}
theorem Cert.log:∀{l:List Nat} {log ae3:List (Nat×List Nat)} {env:Env} {σ:Sto},Cert G ops ⟨false,[],[]⟩ log l env σ K→Cert G ops ⟨false,[],[]⟩ ae3 l env σ K
 |[],_,_,_,_,h=>h
 |i::l,log,ae3,env,σ,h=>by
  obtain⟨o,ho,h⟩:=h
  refine⟨o,ho,?_⟩
  rcases h with⟨h1,h2,h3⟩|⟨h1,h2,mat,R,av,σ2,h3,h4,h5,h6,h7⟩|⟨h1,h2,M,news,Φ,h3,h4,h5,h6,h7⟩|⟨h1,h2,h3⟩
  ·exact .inl ⟨h1,h2,Cert.log h3⟩
  ·exact .inr (.inl ⟨h1,h2,mat,R,av,σ2,h3,h4,h5,h6,Cert.log h7⟩)
  ·exact .inr (.inr (.inl ⟨h1,h2,M,news,Φ,h3,(λh=>by cases h),h5,h6,λav σ' hq=>Cert.log (h7 av σ' hq)⟩))
  ·exact .inr (.inr (.inr ⟨h1,h2,Cert.log h3⟩))
theorem Cert.append{l2:List Nat}:∀{l1:List Nat} {log:List (Nat×List Nat)} {env:Env} {σ:Sto},Cert G ops ⟨false,[],[]⟩ log l1 env σ (λe s=>Cert G ops ⟨false,[],[]⟩ [] l2 e s K)→Cert G ops ⟨false,[],[]⟩ log (l1++l2) env σ K
 |[],_,_,_,h=>Cert.log h
 |i::l,log,env,σ,h=>by
  obtain⟨o,ho,h⟩:=h
  refine⟨o,ho,?_⟩
  rcases h with⟨h1,h2,h3⟩|⟨h1,h2,mat,R,av,σ2,h3,h4,h5,h6,h7⟩|⟨h1,h2,M,news,Φ,h3,h4,h5,h6,h7⟩|⟨h1,h2,h3⟩
  ·exact .inl ⟨h1,h2,Cert.append h3⟩
  ·exact .inr (.inl ⟨h1,h2,mat,R,av,σ2,h3,h4,h5,h6,Cert.append h7⟩)
  ·exact .inr (.inr (.inl ⟨h1,h2,M,news,Φ,h3,h4,h5,h6,λav σ' hq=>Cert.append (h7 av σ' hq)⟩))
  ·exact .inr (.inr (.inr ⟨h1,h2,Cert.append h3⟩))
end cert
theorem A.RX{P:Program}{N:Nat}{ids:List Nat}{tb:Tb}{env:Env}{σ:Sto}{Q:Exit→Env→Sto→Prop}(W:Wld P tb){id:Nat}{ops:Array Oper}(n:Nat)(l2:List Nat)(hs:List (Nat×Hint P))(e1:Env)(s1:Sto){o:Oper}{M news:List Nat}{Φ:AV→Sto→Prop}
  (hl:List.range ops.size=List.range n++n::l2) (hd:mZ N ops=true) (h1:lM tb ids ops ⟨false,[],[]⟩ ((List.range n).map λi=>(i,hintOf hs i)) [] env σ=some (e1,s1,(List.range n).map λi=>(hintOf hs i).exp))
  (ho:ops[n]?=some o) (hg:o.guard=none) (D:dV ⟨P,N,ids⟩ o e1.ev s1 M news Φ) (hc:e1.clean news.contains=true) (hn:news.all (λd=>!ids.contains d&&(s1.get d).isNone)=true)
  (k:∀av σ',Φ av σ'→∃(hs2:List (Nat×Hint P)) (e2:Env) (s2:Sto),lM tb ids ops ⟨false,[],[]⟩ (l2.map λi=>(i,hintOf hs2 i)) [] (e1.put o.dst av) σ'=some (e2,s2,l2.map λi=>(hintOf hs2 i).exp)∧Q .normal e2 s2):ai ⟨P,N,ids⟩ (.region id ops false) Q env σ:=by
 refine A.region hd ?_
 rw[hl]
 have run:∀(hs:List (Nat×Hint P)) (l:List Nat) {K:Env→Sto→Prop} {e e':Env} {s s':Sto},lM tb ids ops ⟨false,[],[]⟩ (l.map λi=>(i,hintOf hs i)) [] e s=some (e',s',l.map λi=>(hintOf hs i).exp)→K e' s'→Cert ⟨P,N,ids⟩ ops ⟨false,[],[]⟩ [] l e s K:=λhs l K e e' s s' h hK=>by
  have:=jW (N:=N) (K:=K) W h (by rw[List.map_map];rfl) hK
  rw[List.map_map,show((λx:Nat×Hint P=>x.1)∘λi=>(i,hintOf hs i))=λi=>i from rfl,List.map_id']at this
  exact this
 refine Cert.append (run hs _ h1 ?_)
 refine⟨o,ho,.inr (.inr (.inl ⟨?_,(λh=>by cases h),M,news,Φ,D,(λh=>by cases h),hc,λd hd=>?_,λav σ' hq=>?_⟩))⟩
 ·simp only[Want,hg]
 ·have:=List.all_eq_true.1 hn d hd
  simpa using this
 ·obtain⟨hs2,e2,s2,g1,g2⟩:=k av σ' hq
  exact run hs2 _ g1 g2
section iter
variable {G:Gl}{σ:Sto}{o:Oper}{ev:Operand→AV}
theorem rW{cx:Cx}{I:Imm}{β:Nat→Value}{w:World}(hw:aJ G cx I β σ w){di clock:Nat}{es:Array MapEntry}{aD:List (AV×AV)}{seen:Array Nat}(hi:σ.get di=some (.dW es clock aD seen)){v:Value}(h1:Rep I β (.ptr di 0) v):
  ∃r bm,v=.pointer (some ⟨r,0,none⟩)∧blk (β di)=some r∧w.heap[r]?=some (.mapIter (some bm) clock seen clock)∧w.heap[bm]?=some (.map es clock)∧I bm none=some (gM es clock)∧dh I aD es.toList∧fe es clock∧(∀o,I r o=none)∧Place cx r∧β di=.pointer (some ⟨r,0,none⟩):=by
 simp only[Rep]at h1
 obtain⟨b,h1,h2⟩:=h1
 have hin:β di≠.nilFunc:=λe=>by rw[e]at h1;cases h1
 have ho:=hw.aT di _ hi
 simp only[aa,hin,false_or]at ho
 obtain⟨r,bm,q1,q2,q3,q4,q5,q6,q7⟩:=ho
 have hbr:b=r:=by rw[q1]at h1;simpa [blk]using h1.symm
 subst hbr
 obtain⟨es',clock',g1,g2⟩:=hw.cA bm _ q3
 obtain⟨rfl,rfl⟩:=mX g2
 exact⟨b,bm,h2,h1,q2,g1,q3,q4,q5,q6,q7,q1⟩
theorem D.ae4{T K E di:Nat}{x:Operand}{aD:List (AV×AV)}(h:o.op=.range T x)(hx:ev x=.mpf aD)(hT:G.P.underlying T=some (.map K E))(hi:G.ids.contains di=false)(hc:σ.clean [di].contains=true):
  dV G o ev σ [di] [di] (λr σ'=>r=.ptr di 0∧∃es clock,σ'=(di,.dW es clock aD #[])::σ):=by
 intro cx I β w ρ hw hop
 have h1:=hop x (by simp[h,Op.operands]);rw[hx]at h1
 simp only[Rep,aj]at h1
 obtain⟨bm,es,clock,q1,q2,q3,q4⟩:=h1
 obtain⟨es',clock',g1,g2⟩:=hw.cA bm _ q2
 obtain⟨rfl,rfl⟩:=mX g2
 have hrun:(execOp ρ o).run G.P w=.ok (.value (.pointer (some ⟨w.heap.size,0,none⟩))) (w.alloc (.mapIter (some bm) clock #[] clock)):=by
  simp[execOp,h,q1,run_range_map w T K E bm es clock hT g1]
 rw[hrun]
 have hv:=hw.kN (mat:=[di]) (σ2:=σ) (env:=[]) ⟨λ_ _=>rfl,by simpa using hi,rfl,hc,λx hx dm n h=>by have:=(Sto.bB hc x _ h).1;rw[List.contains_iff_mem.2 hx]at this;cases this⟩
 have hb:∀y,y≠di→dw (cK β [di]) di (.pointer (some ⟨w.heap.size,0,none⟩)) y=β y:=λy hy=>by rw[bD _ _ hy];simp[cK,hy]
 have hbi:dw (cK β [di]) di (.pointer (some ⟨w.heap.size,0,none⟩)) di=.pointer (some ⟨w.heap.size,0,none⟩):=bn _ _ _
 refine⟨.ptr di 0,_,I,dw (cK β [di]) di (.pointer (some ⟨w.heap.size,0,none⟩)),⟨rfl,es,clock,rfl⟩,?_,?_,aF.refl I,λy hy=>hb y (by simpa using hy),λy hy=>by rw[Sto.aC,if_neg (Ne.symm (by simpa using hy))]⟩
 ·simp only[Rep,hbi]
  exact⟨w.heap.size,rfl,rfl⟩
 ·refine hv.turn (d:=di) (Kept.alloc w _) (.inl hw.size) (λx hx=>by rw[Sto.aC,if_neg (Ne.symm hx)]) (λx hx hs e=>by
    obtain⟨ob,hs⟩:=Option.isSome_iff_exists.1 hs
    exact absurd (hv.iE hs e) (by omega)) (aF.refl I) (λ_ _ _=>rfl) (λo' v' hv'=>by rw[hw.bH (Nat.le_refl _)]at hv';cases hv') (hw.bH (Nat.le_refl _) none)
   (λx hx=>bD _ _ hx) (.inl (by simpa using hi)) (HLe.upd (by simp[cK])) (.inl (by rw[hbi];rfl)) λob hob=>?_
  rw[Sto.aC,if_pos rfl]at hob
  cases hob
  simp only[aa,hbi]
  exact .inr ⟨w.heap.size,bm,rfl,heap_alloc_new w _,q2,q3,q4,λo=>hw.bH (Nat.le_refl _) o,.inl hw.size⟩
theorem D.ahz{di clock:Nat}{x:Operand}{es:Array MapEntry}{aD:List (AV×AV)}{seen:Array Nat}(h:o.op=.next x false)(hx:ev x=.ptr di 0)(hi:σ.get di=some (.dW es clock aD seen)):
  dV G o ev σ [di] [] (λr σ'=>((leftOf es seen).size=0∧r=.tup [.bool false]∧σ'=σ)∨∃e∈(leftOf es seen).toList,r=.tup [.bool true,.cB,.cB]∧σ'=σ.set di (.dW es clock aD (seen.push e.born))):=by
 intro cx I β w ρ hw hop
 have h1:=hop x (by simp[h,Op.operands]);rw[hx]at h1
 obtain⟨b,bm,h2,hbd,q3,p2,q6,q7,p3,q4,q5,q1⟩:=rW hw hi h1
 rcases run_next_at (P:=G.P) w o.type b bm clock clock seen es clock q3 p2 p3.2 (Nat.le_refl _)with⟨s1,s2⟩|⟨e,s1,w1,s2,s3⟩
 ·have hrun:(execOp ρ o).run G.P w=.ok (.value (.tuple #[.bool false])) w:=by simp[execOp,h,h2,s2]
  rw[hrun]
  refine⟨.tup [.bool false],σ,I,β,.inl ⟨s1,rfl,rfl⟩,?_,hw,aF.refl I,λ_ _=>rfl,λ_ _=>rfl⟩
  simp[Rep,aI,aj]
 ·have hrun:(execOp ρ o).run G.P w=.ok (.value (.tuple #[.bool true,e.key,e.val])) (setBlock w1 b (.mapIter (some bm) clock (seen.push e.born) clock)):=by simp[execOp,h,h2,s3]
  rw[hrun]
  refine⟨.tup [.bool true,.cB,.cB],σ.set di (.dW es clock aD (seen.push e.born)),I,β,.inr ⟨e,s1,rfl,rfl⟩,?_,?_,aF.refl I,λ_ _=>rfl,λy hy=>by rw[Sto.ck,if_neg (by simpa using hy)]⟩
  ·simp only[Rep,aI,aj]
   exact⟨_,rfl,_,_,rfl,rfl,_,_,rfl,trivial,_,_,rfl,trivial,rfl⟩
  ·have hk:Kept w (setBlock w1 b (.mapIter (some bm) clock (seen.push e.born) clock)) b:=by
    rcases s2 with rfl|rfl
    ·exact Kept.setObj _ b _
    ·exact Kept.drew (Kept.setObj _ b _)
   have hh:(setBlock w1 b (.mapIter (some bm) clock (seen.push e.born) clock)).heap[b]?=some (.mapIter (some bm) clock (seen.push e.born) clock):=by
    have hlt:=aY q3
    have:w1.heap=w.heap:=by rcases s2 with rfl|rfl<;>rfl
    simp[setBlock,this,Array.getElem?_setIfInBounds,hlt]
   refine hw.turn (d:=di) hk q5 (λx hx=>by rw[Sto.ck,if_neg hx]) (λx hx hs e'=>hw.bp x di hs (by rw[hi];rfl) hx b e' (cq hbd)) (aF.refl I) (λ_ _ _=>rfl)
    (λo v hv=>by rw[q4 o]at hv;cases hv) (q4 none) (λ_ _=>rfl) (.inr rfl) (HLe.refl β) (.inl hbd) λob hob=>?_
   rw[Sto.ck,if_pos rfl,hi]at hob
   injection hob with hob
   subst hob
   simp only[aa]
   exact .inr ⟨b,bm,q1,hh,q6,q7,p3,q4,q5⟩
theorem Y.ae5{α:Type}{di clock i:Nat}{k:IntKind}{x:Operand}{es:Array MapEntry}{seen:Array Nat}{e:MapEntry}{n:Int}{v:α}(l:List (Int×α))(enc:α→AV)(h:o.op=.entry x)(hx:ev x=.ptr di 0)(hi:σ.get di=some (.dW es clock (bu k enc l) (seen.push e.born)))
  (he:es[i]?=some e) (hn:l[i]?=some (n,v)):Yields G o ev σ [] [di] (.tup [.int k n,enc v]):=
 .pure λσ' cx I β w ρ hR hw hop=>by
  have h1:=hop x (by simp[h,Op.operands]);rw[hx]at h1
  obtain⟨b,bm,h2,hbd,q3,p2,q6,q7,p3,q4,q5,q1⟩:=rW hw (by rw[hR di (by simp)];exact hi) h1
  have hmem:e∈es.toList:=by
   have:es.toList[i]?=some e:=by simpa using he
   exact List.mem_of_getElem? this
  have hrun:(execOp ρ o).run G.P w=.ok (.value (.tuple #[e.key,e.val])) w:=by simp[execOp,h,h2,run_entry_at (P:=G.P) w b bm clock seen es clock e q3 p2 hmem p3.1]
  refine⟨_,hrun,?_⟩
  obtain⟨s1,s2⟩:=rU q7 (i:=i) (a:=.int k n) (c:=enc v) (e:=e) (by simp[bu,hn]) (by simpa using he)
  simp only[Rep,aI]
  exact⟨_,rfl,e.key,[e.val],rfl,s1,e.val,[],rfl,aj.rep β _ _ s2,rfl⟩
end iter
theorem vL{I:Imm}:∀{aD:List (AV×AV)} {es:List MapEntry},dh I aD es→es.length=aD.length
 |[],_,h=>by simp only[dh]at h;rw[h];rfl
 |(k,v)::r,_,h=>by
  simp only[dh]at h
  obtain⟨e,us,rfl,_,_,h3⟩:=h
  simp[vL h3]
theorem A.rngF{S α:Type}{G:Gl}{σ:Sto}{env:Env}{Q:Exit→Env→Sto→Prop}{k:IntKind}{enc:α→AV}{l:List (Int×α)}{id b t1 t2 it di clock:Nat}{es:Array MapEntry}{o1 o2:Oper}{y:Code}
  (Inv:List (Int×α)→S→Prop) (g0:S) (bG:S→Env) (cz:Array Nat→S→Sto) (ho1:o1.op=.next (.tmp it) false∧o1.dst=some t1∧o1.guard=none) (ho2:o2.op=.extract (.tmp t1) 0∧o2.dst=some t2∧o2.guard=none) (hd:mZ G.N #[o1,o2]=true)
  (h0:Inv [] g0) (hit:∀g,(bG g).get it=.ptr di 0) (hsi:∀seen g,(cz seen g).get di=some (.dW es clock (bu k enc l) seen))
  (dK:∀seen g s',(cz seen g).set di (.dW es clock (bu k enc l) s')=cz s' g) (hw:aN G env σ (bG g0) (cz #[] g0))
  (body:∀(seen:Array Nat) (e:MapEntry) (i:Nat) (n:Int) (v:α) (p:List (Int×α)) (g:S),es[i]?=some e→l[i]?=some (n,v)→Inv p g→
   ai G y (jj (λenv' σ'=>∃g',Inv (p++[(n,v)]) g'∧aN G env' σ' (bG g') (cz (seen.push e.born) g')) Q) ((t2,.bool true)::(t1,.tup [.bool true,.cB,.cB])::bG g) (cz (seen.push e.born) g))
  (out:∀seen p g,p.Perm l→Inv p g→Q (.exit b) ((t2,.bool false)::(t1,.tup [.bool false])::bG g) (cz seen g)) :
  ai G (.loop (.seq (.region id #[o1,o2] false) (.seq (.cond (.tmp t2) .skip (.exit b)) y))) Q env σ:=by
 refine A.loop (α:=Array Nat×S) (λs=>bG s.2) (λs=>cz s.1 s.2) (λs=>∃p:List Nat,p.Nodup∧(∀i∈p,i<l.length)∧(∀(i:Nat) (e:MapEntry),es[i]?=some e→(s.1.contains e.born=true↔i∈p))∧Inv (sel l p) s.2)
  (λs=>(leftOf es s.1).size) (#[],g0) ⟨[],List.nodup_nil,by simp,by simp,h0⟩ hw ?_
 rintro⟨seen,g⟩ ⟨p,p1,p2,p3,p4⟩
 refine A.aeC (F:=es.size=l.length∧(es.toList.map (·.born)).Nodup) (λcx I β a w hW hT=>?_) λ⟨f1,f2⟩=>?_
 ·have h1:=hT it
  rw[show(bG (seen,g).2).get it=.ptr di 0 from hit g]at h1
  obtain⟨b,bm,h2,hbd,q3,p2,q6,q7,p3,q4,q5,q1⟩:=rW hW (hsi seen g) h1
  have:=vL q7
  exact⟨by simpa [bu]using this,p3.1⟩
 have h21:Env.get ((t2,.bool true)::(t1,.tup [.bool true,.cB,.cB])::bG g) t2=.bool true:=by rw[Env.aC,if_pos rfl]
 have h20:Env.get ((t2,.bool false)::(t1,.tup [.bool false])::bG g) t2=.bool false:=by rw[Env.aC,if_pos rfl]
 refine A.seq (A.region hd ?_)
 show Cert G #[o1,o2] ⟨false,[],[]⟩ [] [0,1] (bG g) (cz seen g) _
 refine⟨o1,rfl,.inr (.inr (.inl ⟨by simp only[Want,ho1.2.2],by simp,[di],[],_,D.ahz (x:=.tmp it) ho1.1 (hit g) (hsi seen g),by simp,Env.eO _,by simp,λav σ' hav=>?_⟩))⟩
 have ext:∀(vs:List AV) (bb:Bool) (σ':Sto) (K:Env→Sto→Prop),vs[0]?=some (.bool bb)→K ((t2,.bool bb)::(t1,.tup vs)::bG g) σ'→Cert G #[o1,o2] ⟨false,[],[]⟩ [] [1] ((bG g).put o1.dst (.tup vs)) σ' K:=λvs bb σ' K hv hK=>by
  refine⟨o2,rfl,.inr (.inl ⟨by simp only[Want,ho2.2.2],by simp,[],[],.bool bb,σ',oe.none _ _ _,by simp,by simp,Y.extract (x:=.tmp t1) ho2.1 (by rw[ho1.2.1];show Env.get _ _=_;rw[Env.put,Env.aC,if_pos rfl]) hv,?_⟩)⟩
  rw[ho1.2.1,ho2.2.1]
  exact hK
 rcases hav with⟨u1,rfl,rfl⟩|⟨e,u1,rfl,rfl⟩
 ·refine ext _ false _ _ rfl ?_
  have hall:∀i,i∈p↔i<l.length:=λi=>⟨p2 i,λhlt=>by
   have hlt':i<es.size:=by omega
   refine(p3 i es[i] (Array.getElem?_eq_getElem hlt')).1 ?_
   by_cases hc:seen.contains es[i].born=true
   ·exact hc
   ·exfalso
    have:es[i]∈leftOf es seen:=by
     unfold leftOf
     rw[Array.mem_filter]
     exact⟨Array.getElem_mem hlt',by simpa using hc⟩
    have:leftOf es seen≠#[]:=λe=>by rw[e]at this;simp at this
    exact this (Array.eq_empty_of_size_eq_zero u1)⟩
  have hp:(sel l p).Perm l:=by
   have:=(oI p1 hall).filterMap λi=>l[i]?
   have e2:=pV l
   unfold sel at e2 ⊢
   rwa [e2]at this
  refine A.seq (A.cond (b:=false) h20 (λh=>by cases h) λ_=>A.exit ?_)
  exact out seen _ g hp p4
 ·refine ext _ true _ _ rfl ?_
  rw[dK seen g]
  obtain⟨v1,v2⟩:=mem_left u1
  obtain⟨i,hi1⟩:=List.getElem?_of_mem v1
  have hi1:es[i]?=some e:=by simpa using hi1
  have hil:i<l.length:=by have:=(Array.getElem?_eq_some_iff.1 hi1).1;omega
  have hip:i∉p:=λh=>by
   have:=(p3 i e hi1).2 h
   rw[v2]at this;cases this
  have hli:l[i]?=some (l[i].1,l[i].2):=List.getElem?_eq_getElem hil
  have hnd:(p++[i]).Nodup:=by
   rw[List.nodup_append]
   exact⟨p1,by simp,λa ha c hc=>by simp only[List.mem_singleton]at hc;subst hc;exact λe=>hip (e▸ha)⟩
  have xS:∀j∈p++[i],j<l.length:=λj hj=>by
   rcases List.mem_append.1 hj with hj|hj
   ·exact p2 j hj
   ·rw[List.mem_singleton.1 hj];exact hil
  have e1:sel l (p++[i])=sel l p++[(l[i].1,l[i].2)]:=by
   unfold sel
   rw[List.filterMap_append]
   simp[List.filterMap_cons,List.getElem?_eq_getElem hil]
  refine A.seq (A.cond (b:=true) h21 (λ_=>A.skip ?_) λh=>by cases h)
  refine(body seen e i l[i].1 l[i].2 _ g hi1 hli p4).mono λex env' σ' hq=>?_
  cases ex with
  |normal=>
   obtain⟨g',hq1,hq2⟩:=hq
   refine⟨(seen.push e.born,g'),⟨p++[i],hnd,xS,λj e' hj=>?_,by rw[e1];exact hq1⟩,left_shrinks es seen e u1,hq2⟩
   rw[contains_push,Bool.or_eq_true,beq_iff_eq,p3 j e' hj,List.mem_append,List.mem_singleton]
   constructor
   ·rintro(h|h)
    ·exact .inl h
    ·right
     have hj':es.toList[j]?=some e':=by simpa using hj
     have hi':es.toList[i]?=some e:=by simpa using hi1
     have hjl:=(List.getElem?_eq_some_iff.1 hj').1
     have hilt:=(List.getElem?_eq_some_iff.1 hi').1
     have g1:=(List.getElem?_eq_some_iff.1 hj').2
     have g2:=(List.getElem?_eq_some_iff.1 hi').2
     have pw:=List.pairwise_iff_getElem.1 f2
     rcases Nat.lt_trichotomy j i with q|q|q
     ·refine absurd ?_ (pw j i (by simpa using hjl) (by simpa using hilt) q)
      rw[List.getElem_map,List.getElem_map,g1,g2,h]
     ·exact q
     ·refine absurd ?_ (pw i j (by simpa using hilt) (by simpa using hjl) q)
      rw[List.getElem_map,List.getElem_map,g1,g2,h]
   ·rintro(h|h)
    ·exact .inl h
    ·subst h
     rw[hi1]at hj
     cases hj
     exact .inr rfl
  |_=>exact hq
end Go.Proofs.Ytmnbolcmepihlaa
