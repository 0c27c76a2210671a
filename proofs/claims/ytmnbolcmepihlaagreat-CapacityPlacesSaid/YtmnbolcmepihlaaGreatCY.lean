/- Rows of a slice, read and tY in aew place; rows laid down for good. No condition but bf aM stand in each. -/
import Derived.Test.YtmnbolcmepihlaaGreatAD
namespace Go.Proofs.YtmnbolcmepihlaaGreat
set_option linter.all false
open Go
theorem abv{I:Imm}:∀{xs:List AV} {vs:List Value} {i:Nat} {a:AV},aS I xs vs→xs[i]?=some a→∃v,vs[i]?=some v∧aB I a v
 |[],_,_,_,_,h=>by simp at h
 |x::r,vs,i,a,h,hi=>by
  simp only[aS]at h;obtain⟨u,us,rfl,h1,h2⟩:=h;cases i with
  |zero=>simp only[List.getElem?_cons_zero,Option.some.injEq]at hi ⊢;subst hi;exact⟨u,rfl,h1⟩
  |succ i=>simp only[List.getElem?_cons_succ]at hi ⊢;exact abv h2 hi
theorem abw{I:Imm}{a:AV}{v:Value}(ha:aB I a v):∀{xs:List AV} {vs:List Value} (i:Nat),aS I xs vs→aS I (xs.set i a) (vs.set i v)
 |[],vs,i,h=>by simp only[aS]at h;subst h;simp[aS]
 |x::r,vs,i,h=>by
  simp only[aS]at h;obtain⟨u,us,rfl,h1,h2⟩:=h;cases i with
  |zero=>simp only[List.set_cons_zero,aS];exact⟨v,us,rfl,ha,h2⟩
  |succ i=>simp only[List.set_cons_succ,aS];exact⟨u,_,rfl,h1,abw ha i h2⟩
theorem yt{α:Type}{a:α}:∀{l:List (List α)} (i:Nat),(∀e∈l,e.length=1)→(l.set i [a]).flatten=l.flatten.set i a
 |[],i,_=>by simp
 |x::r,i,h=>by
  have hx:=h x (by simp);obtain⟨y,rfl⟩:∃y,x=[y]:=by
   match x,hx with
   |[y],_=>exact⟨y,rfl⟩
  cases i with
  |zero=>simp
  |succ i=>simp only[List.set_cons_succ,List.flatten_cons,List.cons_append,List.nil_append];rw[yt i λe he=>h e (by simp[he])]
variable {I:Imm}{cx:Cx}{w:World}{β:Nat→Value}
theorem agq{G:Gl}{σ:Sto}(hw:aX G cx I β σ w){e:Nat}{els:List Rw}(he:σ.get e=some (.bun els)){hs:Array Value}(hb:β e=.tuple hs):eD cx I w els hs.toList:=by
 have h:=hw.bB e _ he;simp only[aj,hb,Value.tuple.injEq,reduceCtorEq,false_or]at h;obtain⟨hs',rfl,h⟩:=h;exact h
theorem eD.turn{cx:Cx}{I:Imm}{w w':World}{b:Nat}{x:Rw}(hk:∀c,c≠b→c<w.heap.size→w'.heap[c]?=w.heap[c]?):∀{els:List Rw} {hs:List Value},eD cx I w els hs→∀{p:Nat} {u:Value},p<els.length→hs[p]?=some u→blk u=some b→ia cx I w' x u→eD cx I w' (els.set p x) hs
 |[],_,_,p,_,hp,_,_,_=>by simp at hp
 |y::r,hs,h,p,u,hp,hu,hbu,hx=>by
  simp only[eD]at h;obtain⟨v,vs,rfl,h1,h2,h3⟩:=h;cases p with
  |zero=>
   simp only[List.getElem?_cons_zero,Option.some.injEq]at hu;subst hu;simp only[List.set_cons_zero,eD];refine⟨v,vs,rfl,hx,h2,h3.go (aQ.refl I) λc hc=>⟨λhlt=>hk c (λe=>?_) hlt,λ_=>rfl,id⟩⟩;subst e;exact h2 c hbu hc
  |succ p=>
   simp only[List.getElem?_cons_succ]at hu;simp only[List.set_cons_succ,eD];have hin:b∈vs.filterMap blk:=List.mem_filterMap.2 ⟨u,List.mem_of_getElem? hu,hbu⟩;refine⟨v,vs,rfl,h1.go (aQ.refl I) λc hc=>⟨λhlt=>hk c (λe=>?_) hlt,λ_=>rfl,id⟩,h2,eD.turn hk h3 (by simpa using hp) hu hbu hx⟩;subst e;exact h2 c hc hin
theorem abR{p:Nat→Bool}(h:∀d,p d=false)(o:br):fV p o=false:=by
 cases o<;>simp only[fV,jY h,h,Bool.false_or]
 all_goals (split<;>simp[h])
section
variable {G:Gl}{σ:Sto}{o:Oper}{ev:Operand→AV}
theorem Y.arx{T d e p T0 n:Nat}{els:List Rw}{x:Operand}(h:o.op=.load T x)(hx:ev x=.ptr d p)(hd:σ.get d=some (.b8 T0 e n none))(he:σ.get e=some (.bun els))(hp:p<els.length)(hT:TyS G.P T 1 false):
  Yields G o ev σ [] [d,e] (.hnd (.row p) e):=
 .pure λσ' cx I β w ρ hR hw hop=>by
  have h1:=hop x (by simp[h,Op.operands]);rw[hx]at h1
  simp only[Rep]at h1;obtain⟨b,h1,h2⟩:=h1;have hdn:β d≠.nilFunc:=λe=>by rw[e]at h1;cases h1
  obtain⟨b',cap,arr,hs,q1,q2,q3,q4,q5,q6,q7,q8,q9,q10,q11,q12⟩:=sj hw (by rw[hR d (by simp)];exact hd) (by rw[hR e (by simp)];exact he) hdn;have hbb:b'=b:=by rw[q1]at h1;simpa [blk]using h1
  subst hbb;have hpl:p<hs.toList.length:=by simp;omega
  have hv2:hs.toList[p]?=some (hs.toList[p]'hpl):=List.getElem?_eq_getElem hpl;generalize hs.toList[p]'hpl=v2 at hv2;have jT:arr[p]?=some v2:=by
   have:(arr.toList.take n)[p]?=hs.toList[p]?:=by rw[show arr.toList.take n=hs.toList from q8]
   rw[List.getElem?_take,if_pos (by omega),hv2]at this;simpa using this
  have hcell:∀j,j<1→∃v,[v2][j]?=some v∧w.cell? ⟨b',p+j,none⟩=some v:=λj hj=>by
   have:j=0:=by omega
   subst this;exact⟨v2,rfl,by simp[World.cell?,q4,jT]⟩
  have hl:=iy hT (vs:=[v2]) hcell (λ_=>by omega);exact⟨v2,by simp[execOp,h,h2,Instr.loadAt,Instr.sureAddr,hl],by simp only[Rep,Hk.rep];exact⟨hs,q6,hv2⟩⟩
theorem ad8{cx:Cx}{I:Imm}{β:Nat→Value}{w:World}(hw:aX G cx I β σ w){e p T1 sz:Nat}{els:List Rw}{rows:List (List AV)}(he:σ.get e=some (.bun els))(hr:els[p]?=some (.sl T1 sz rows)){v:Value}(hv:(Hk.row p).rep (β e) v)(h0:rows≠[]):
  ∃hs b cap arr,β e=.tuple hs∧hs.toList[p]?=some v∧eD cx I w els hs.toList∧v=.slice (some ⟨b,0,none⟩) rows.length cap∧rows.length≤cap∧cap≤maxLen∧w.heap[b]?=some (.cells arr T1 (0,0))∧arr.size=cap*sz∧
    aS I rows.flatten (arr.toList.take (rows.length*sz))∧(∀e∈rows,e.length=sz)∧(∀o:Nat,I b o=none)∧Place cx b:=by
 obtain⟨hs,q1,q2⟩:=hv;have hb:=agq hw he q1;obtain⟨v',g1,g2⟩:=hb.get hr;rw[q2]at g1;cases g1;rcases g2 with⟨_,g⟩|⟨b,cap,arr,g1,g2,g3,g4,g5,g6,g7,g8,g9⟩
 ·exact absurd g h0
 ·exact⟨hs,b,cap,arr,q1,q2,hb,g1,g2,g3,g4,g5,g6,g7,g8,g9⟩
theorem Y.ah3{T E sz e p T1:Nat}{els:List Rw}{rows:List (List AV)}{x y:Operand}{k:IntKind}{i:Int}(h:o.op=.indexAddr T x y)(hx:ev x=.hnd (.row p) e)(hy:ev y=.int k i)(he:σ.get e=some (.bun els))(hr:els[p]?=some (.sl T1 sz rows))(hT:SlS G.P T E sz)
  (hi:0≤i∧i<rows.length):Yields G o ev σ [] [e] (.hnd (.jW p (i.toNat*sz)) e):=
 .pure λσ' cx I β w ρ hR hw hop=>by
  have h1:=hop x (by simp[h,Op.operands]);rw[hx]at h1
  have h2:=hop y (by simp[h,Op.operands]);rw[hy]at h2;have h2:=de h2
  simp only[Rep]at h1;obtain⟨hs,b,cap,arr,q1,q2,_,q3,q4,q5,q6,q7,q8,q9,q10,q11⟩:=ad8 hw (by rw[hR e (by simp)];exact he) hr h1 (λe=>by rw[e]at hi;simp at hi;omega);have e1:∀w,(underlying T).run G.P w=.ok (.slice E) w:=λw=>by simp[underlying,program,Sem.run,hT.und]
  have hi':0≤i∧i<(rows.length:Int):=by omega
  refine⟨.pointer (some ⟨b,i.toNat*sz,none⟩),by simp[execOp,h,h2,q3,Instr.indexAt,asIntOf,e1,hi',hT.size,dY],?_⟩;simp only[Rep,Hk.rep];exact⟨hs,_,b,q1,q2,by rw[q3];rfl,rfl⟩
theorem Y.aot{T e p T1 sz:Nat}{els:List Rw}{rows:List (List AV)}{x:Operand}{kk}(h:o.op=.call ⟨.builtin .len,#[x],kk⟩)(hk:kk=#[T])(hx:ev x=.hnd (.row p) e)(he:σ.get e=some (.bun els))(hr:els[p]?=some (.sl T1 sz rows)){E:Nat}(hT:G.P.underlying T=some (.slice E)):
  Yields G o ev σ [] [e] (.int .i64 (rows.length:Int)):=
 .pure λσ' cx I β w ρ hR hw hop=>by
  subst hk;have h1:=hop x (by simp[h,Op.operands,Call.operands]);rw[hx]at h1
  simp only[Rep]at h1;have hv:∃a c,ρ x=.slice a rows.length c:=by
   obtain⟨hs,q1,q2⟩:=h1;have hb:=agq hw (by rw[hR e (by simp)];exact he) q1;obtain⟨v',g1,g2⟩:=hb.get hr;rw[q2]at g1;cases g1;rcases g2 with⟨g,g'⟩|⟨b,cap,arr,g1,_⟩
   ·exact⟨none,0,by rw[g,g'];rfl⟩
   ·exact⟨_,_,g1⟩
  obtain⟨a,c,hv⟩:=hv;have e1:∀w,(underlying T).run G.P w=.ok (.slice E) w:=λw=>by simp[underlying,program,Sem.run,hT]
  exact⟨.int .i64 rows.length,by simp[execOp,h,resolve,invoke,builtin,Builtin.len_,hv,e1,goInt],by simp[Rep,aB]⟩
theorem acO{cx:Cx}{I:Imm}{β:Nat→Value}{w:World}(hw:aX G cx I β σ w){e p off T1 sz:Nat}{els:List Rw}{rows:List (List AV)}(he:σ.get e=some (.bun els))(hr:els[p]?=some (.sl T1 sz rows)){v:Value}(hv:(Hk.jW p off).rep (β e) v)(h0:rows≠[]):
  ∃hs u b cap arr,β e=.tuple hs∧hs.toList[p]?=some u∧blk u=some b∧eD cx I w els hs.toList∧v=.pointer (some ⟨b,off,none⟩)∧u=.slice (some ⟨b,0,none⟩) rows.length cap∧rows.length≤cap∧cap≤maxLen∧w.heap[b]?=some (.cells arr T1 (0,0))∧arr.size=cap*sz∧
    aS I rows.flatten (arr.toList.take (rows.length*sz))∧(∀e∈rows,e.length=sz)∧(∀o:Nat,I b o=none)∧Place cx b:=by
 obtain⟨hs,u,b,q1,q2,q3,q4⟩:=hv;obtain⟨hs',b',cap,arr,g1,g2,g3,g4,g5⟩:=ad8 hw he hr (v:=u) ⟨hs,q1,q2⟩ h0;have:b'=b:=by rw[g4]at q3;simpa [blk]using q3
 subst this;rw[q1]at g1;cases g1;exact⟨hs,u,b',cap,arr,q1,q2,q3,g3,q4,g4,g5⟩
theorem Y.agr{T e p off T1 sz:Nat}{els:List Rw}{rows:List (List AV)}{x:Operand}{a:AV}(h:o.op=.load T x)(hx:ev x=.hnd (.jW p off) e)(he:σ.get e=some (.bun els))(hr:els[p]?=some (.sl T1 sz rows))(ha:rows.flatten[off]?=some a)(hT:TyS G.P T 1 false):
  Yields G o ev σ [] [e] a:=
 .pure λσ' cx I β w ρ hR hw hop=>by
  have h1:=hop x (by simp[h,Op.operands]);rw[hx]at h1
  simp only[Rep]at h1;obtain⟨hs,u,b,cap,arr,q1,q2,q3,q4,q5,q6,q7,q8,q9,q10,q11,q12,q13,q14⟩:=acO hw (by rw[hR e (by simp)];exact he) hr h1 (λe=>by rw[e]at ha;simp at ha);obtain⟨v,g1,g2⟩:=abv q11 ha;have jT:arr[off]?=some v:=by
   rw[List.getElem?_take]at g1;split at g1
   ·simpa using g1
   ·cases g1
  have hcell:∀j,j<1→∃v',[v][j]?=some v'∧w.cell? ⟨b,off+j,none⟩=some v':=λj hj=>by
   have:j=0:=by omega
   subst this;exact⟨v,rfl,by simp[World.cell?,q9,jT]⟩
  have hl:=iy hT (vs:=[v]) hcell (λ_=>by omega);exact⟨v,by simp[execOp,h,q5,Instr.loadAt,Instr.sureAddr,hl],aB.rep _ _ _ g2⟩
theorem D.aeX{T e p off T1:Nat}{els:List Rw}{rows:List (List AV)}{x y:Operand}{a:AV}(h:o.op=.store T x y)(hx:ev x=.hnd (.jW p off) e)(hy:ev y=a)(hc:a.closed=true)(h1a:a.one=true)(he:σ.get e=some (.bun els))(hr:els[p]?=some (.sl T1 1 rows))(ho:off<rows.length)(hT:TyS G.P T 1 false):
  dU G o ev σ [e] [] (λr σ'=>r=.undef∧σ'=(e,.bun (els.set p (.sl T1 1 (rows.set off [a]))))::σ.minus [e]):=by
 intro cx I β w ρ hw hop;have h1:=hop x (by simp[h,Op.operands]);rw[hx]at h1
 have h3:=hop y (by simp[h,Op.operands]);rw[hy]at h3
 simp only[Rep]at h1;obtain⟨hs,u,b,cap,arr,q1,q2,q3,q4,q5,q6,q7,q8,q9,q10,q11,q12,q13,q14⟩:=acO hw he hr h1 (λe=>by rw[e]at ho;simp at ho);have hone:=AV.yM h1a h3;have hcv:=Rep.closed _ _ hc h3;have hst:=kg (P:=G.P) q9 [ρ y] (off:=off) (by simp;omega) (λv hv=>by rw[List.mem_singleton.1 hv];exact hone.1);have hrun:(execOp ρ o).run G.P w=.ok .skip (w.setRow b (cG arr.toList off [ρ y]).toArray):=by
  have e1:((#[ρ y]:Array Value).size≠1)=False:=by simp
  simp[execOp,h,q5,Instr.storeAt,Instr.sureAddr,storeVar,hT.size,hone.2,hst]
 rw[hrun];have hes:(σ.get e).isSome:=by rw[he];rfl
 have hk:Kept w (w.setRow b (cG arr.toList off [ρ y]).toArray) b:=Kept.setRow w b _;have hbe:b∈bY (β e):=by rw[q1,eY];exact List.mem_filterMap.2 ⟨u,List.mem_of_getElem? q2,q3⟩
 have hsp:cG arr.toList off [ρ y]=arr.toList.set off (ρ y):=by
  apply List.ext_getElem?;intro i;simp only[cG,List.length_singleton];rw[List.getElem?_set];by_cases hio:off=i
  ·subst hio;rw[if_pos rfl,if_pos (by simp;omega),List.append_assoc,List.getElem?_append_right (by simp;omega),List.length_take,Nat.min_eq_left (by simp;omega)];simp
  ·rw[if_neg hio];by_cases hlt:i<off
   ·rw[List.append_assoc,List.getElem?_append_left (by simp;omega),List.getElem?_take,if_pos hlt]
   ·rw[List.getElem?_append_right (by simp;omega),List.getElem?_drop];congr 1;simp only[List.length_append,List.length_take,List.length_singleton,Array.length_toList];omega
 have hrow:ia cx I (w.setRow b (cG arr.toList off [ρ y]).toArray) (.sl T1 1 (rows.set off [a])) u:=by
  refine .inr ⟨b,cap,_,by rw[q6,List.length_set],by rw[List.length_set];exact q7,q8,setRow_heap w b arr _ T1 _ q9,?_,?_,?_,q13,q14⟩
  ·rw[hsp];simp[q10]
  ·rw[yt off q12,List.length_set,hsp];have:=abw hcv off q11;rw[←List.take_set]at this;simpa using this
  ·intro e' he';rcases List.mem_or_eq_of_mem_set he' with q|q
   ·exact q12 e' q
   ·rw[q];rfl
 have hpl:p<els.length:=(List.getElem?_eq_some_iff.1 hr).1;have ahZ:=eD.turn (λc hc hlt=>hk.block c hc hlt) q4 hpl q2 q3 hrow
 have mg:∀y,y≠e→Sto.get ((e,br.bun (els.set p (.sl T1 1 (rows.set off [a]))))::σ.minus [e]) y=σ.get y:=λy hy=>by
  rw[Sto.aK,if_neg (Ne.symm hy),Sto.dn,if_neg (by simpa using hy)]
 refine⟨.undef,_,I,β,⟨rfl,rfl⟩,by simp[Rep,aB],?_,aQ.refl I,λ_ _=>rfl,λy hy=>mg y (by simpa using hy)⟩;refine hw.redo (M:=[e]) (news:=[]) (b:=b) (β2:=β) hk (λo=>?_) (λy hy hs e'=>?_) q14 (λy hy=>mg y (by simpa using hy)) (λ_ _=>rfl) (λy hy=>by cases hy) (λy o _ _=>?_) (λy hy o hyo=>?_) (λy hy hs2 c hc=>?_) (λy hy z hz hyz hs1 hs2 c hc hc'=>?_)
 ·cases o with
  |none=>exact hw.gN q9
  |some o=>exact q13 o
 ·exact hw.bQ e y hes hs (λe=>hy (by simp[e])) b hbe e'
 ·exact abR (λ_=>rfl) o
 ·simp only[List.mem_singleton]at hy;subst hy;rw[Sto.aK,if_pos rfl]at hyo;cases hyo;simp only[aj];exact .inr ⟨hs,q1,ahZ⟩
 ·simp only[List.mem_singleton]at hy;subst hy;exact⟨y,by simp,hes,hc⟩
 ·simp only[List.mem_singleton]at hy hz;exact hyz (hy.trans hz.symm)
end
theorem acP{cx:Cx}{I I':Imm}{w:World}{α:Type}{T sz:Nat}{enc:α→List AV}(hle:aQ I I'):∀(l:List (List α)) (vs:List Value),eD cx I w (encS T sz enc l) vs→(∀b∈vs.filterMap blk,∀o,I' b o=snap w b o)→aS I' (l.map λr=>[AV.lst false (r.map enc)]).flatten vs
 |[],vs,h,_=>by simp only[encS,List.map_nil,eD]at h;subst h;simp[aS]
 |r::l,vs,h,hI=>by
  simp only[encS,List.map_cons,eD]at h;obtain⟨u,us,rfl,h1,_,h3⟩:=h;simp only[List.map_cons,List.flatten_cons,List.cons_append,List.nil_append,aS];refine⟨u,us,rfl,ia.lst h1 hle λb hb=>hI b (by simp[hb]),acP hle l us h3 λb hb=>hI b ?_⟩;rw[List.filterMap_cons];split
  ·exact hb
  ·exact List.mem_cons_of_mem _ hb
variable {T d:Nat}
theorem aU.ah4{G:Gl}{env:Env}{σ:Sto}{α:Type}{T' sz e n:Nat}(l:List (List α))(enc:α→List AV)(hd:σ.get d=some (.b8 T e n none))(he:σ.get e=some (.bun (encS T' sz enc l))):
  aU G env σ env ((d,.slice T 1 (l.map λr=>[.lst false (r.map enc)]) 0 false)::σ.minus [d,e]):=λcx I β a w h h'=>by
 have hde:d≠e:=λe'=>by subst e';rw[hd]at he;cases he
 have hds:(σ.get d).isSome:=by rw[hd];rfl
 have hes:(σ.get e).isSome:=by rw[he];rfl
 let I':Imm:=λb o=>if b∈bY (β e)then snap w b o else I b o
 have hin:∀b,b∈bY (β e)→∀o,I' b o=snap w b o:=λb hb o=>if_pos hb;have hout:∀b,¬(b∈bY (β e))→∀o,I' b o=I b o:=λb hb o=>if_neg hb
 have hle:aQ I I':=λb o v hv=>by
  by_cases hb:b∈bY (β e)
  ·rw[hin b hb];exact h.afT b o v hv
  ·rw[hout b hb];exact hv
 have hpl:∀b,b∈bY (β e)→Place cx b:=λb hb=>(h.acf he hb).2
 have sub:∀x o,Sto.get ((d,.slice T 1 (l.map λr=>[.lst false (r.map enc)]) 0 false)::σ.minus [d,e]) x=some o→(x=d∧o=.slice T 1 (l.map λr=>[.lst false (r.map enc)]) 0 false)∨(x≠d∧x≠e∧σ.get x=some o):=λx o hx=>by
  rw[Sto.aK,Sto.dn]at hx;split at hx
  ·rename_i e';exact .inl ⟨e'.symm,(Option.some.inj hx).symm⟩
  ·rename_i n1;split at hx
   ·cases hx
   ·rename_i n2;simp only[List.mem_cons,List.not_mem_nil,or_false,not_or]at n2;exact .inr ⟨n2.1,n2.2,hx⟩
 have aou:∀x,(Sto.get ((d,br.slice T 1 (l.map λr=>[.lst false (r.map enc)]) 0 false)::σ.minus [d,e]) x).isSome→(σ.get x).isSome:=λx hx=>by
  obtain⟨o,hx⟩:=Option.isSome_iff_exists.1 hx;rcases sub x o hx with⟨rfl,_⟩|⟨_,_,hx⟩
  ·exact hds
  ·rw[hx];rfl
 refine⟨I',β,{h with good:=λb o v hv=>?_,dO:=λb v hv=>?_,eX:=h.eX.trans hle,fU:=λb hb hn o=>?_,bB:=λx o hx=>?_,bQ:=λx y hx hy=>h.bQ x y (aou x hx) (aou y hy)},h'.mono hle (HLe.refl β)⟩
 ·by_cases hb:b∈bY (β e)
  ·rw[hin b hb]at hv;exact qL b o v hv
  ·rw[hout b hb]at hv;exact h.good b o v hv
 ·by_cases hb:b∈bY (β e)
  ·rw[hin b hb]at hv;exact pJ b v hv
  ·rw[hout b hb]at hv;exact h.dO b v hv
 ·have:¬(b∈bY (β e)):=λhb'=>by
   rcases hpl b hb' with q|q
   ·omega
   ·exact hn q
  rw[hout b this];exact h.fU b hb hn o
 ·rcases sub x o hx with⟨rfl,rfl⟩|⟨n1,n2,hx⟩
  ·by_cases hdn:β x=.nilFunc
   ·simp only[aj];exact .inl hdn
   obtain⟨b,cap,arr,hs,q1,q2,q3,q4,q5,q6,q7,q8,q9,q10,q11,q12⟩:=sj h hd he hdn;have hln:l.length=n:=by simpa [encS]using q12
   have hnb:¬b∈bY (β e):=h.bQ x e hds hes hde b (cR (by rw[q1];rfl));simp only[aj];refine .inr (.inr ⟨b,cap,arr,by rw[q1];simp[hln],by simp[hln];exact q2,q3,q4,by simpa using q5,?_,λe he'=>?_,Nat.zero_le _,(λh=>by cases h),(λo _=>by rw[hout b hnb];exact q9 o),q10⟩)
   ·have:=acP hle l hs.toList q11 λb hb=>hin b (by rw[q6,eY];exact hb);rw[←show arr.toList.take n=hs.toList from q8]at this;simpa [hln]using this
   ·obtain⟨r,_,rfl⟩:=List.mem_map.1 he';rfl
  ·exact(h.bB x o hx).immS hle λb hb=>hout b λq=>h.bQ x e (by rw[hx];rfl) hes n2 b hb q
section
variable {P:Program}
def rwF(T0:Nat)(op:Op)(env:Env)(σ:Sto):Option (Stp×Obs):=match op with
 |.load T x=>(match env.evo x with
  |some (.ptr d p)=>(match σ.get d with
   |some (.b8 T1 e n none)=>(match σ.get e with
    |some (.bun els)=>bif Nat.beq T T0 then some (.y [d,e] (.hnd (.row p) e),([.ptr 0 p],[(0,.bun els)]))else none
    |_=>none)
   |_=>none)
  |_=>none)
 |_=>none
theorem aov{T0 p:Nat}{els:List Rw}(hT:TyS P T0 1 false)(hp:p<els.length){o:Oper}{N:Nat}{ids:List Nat}{env:Env}{σ:Sto}{s:Stp}{ob:Obs}
  (h:rwF T0 o.op env σ=some (s,ob)) (he:ob=([.ptr 0 p],[(0,.bun els)])):cz ⟨P,N,ids⟩ o env σ s:=by
 cases ho:o.op<;>rw[ho]at h
 case load T x=>
  simp only[rwF]at h;split at h
  ·rename_i d p' hx;split at h
   ·rename_i T1 e n hd;split at h
    ·rename_i els' hb;cases hc:Nat.beq T T0 with
     |false=>rw[hc]at h;cases h
     |true=>
      rw[hc]at h;have:=Nat.eq_of_beq_eq_true hc;subst this;cases h;simp only[Prod.mk.injEq,List.cons.injEq,AV.ptr.injEq,br.bun.injEq,and_true,true_and]at he;obtain⟨rfl,rfl⟩:=he;exact Y.arx ho (Env.aG hx) hd hb hp hT
    ·cases h
   ·cases h
  ·cases h
 all_goals (simp only[rwF]at h;cases h)
theorem oV{α:Type}{l:List α}{i:Int}{r:α}(h:elO l i=some r):0≤i∧i.toNat<l.length∧l[i.toNat]?=some r:=by
 unfold elO at h;split at h
 ·exact⟨‹_›,(List.getElem?_eq_some_iff.1 h).1,h⟩
 ·cases h
def hrw{α:Type}{T0 T' sz:Nat}{enc:α→List AV}{l:List (List α)}{i:Int}{r:List α}(h:elO l i=some r)(hT:TyS P T0 1 false):Hint P:=
 .gs false ([.ptr 0 i.toNat],[(0,.bun (encS T' sz enc l))]) (λ_=>rwF T0) λ_ _ _ _ _ _ _ h' he=>aov hT (by simpa [encS]using (oV h).2.1) h' he
def riF(T0:Nat)(op:Op)(env:Env)(σ:Sto):Option (Stp×Obs):=match op with
 |.indexAddr T x y=>(match env.evo x with
  |some (.hnd (.row p) e)=>(match env.evo y with
   |some (.int k j)=>(match σ.get e with
    |some (.bun els)=>bif Nat.beq T T0 then some (.y [e] (.hnd (.jW p j.toNat) e),([.hnd (.row p) 0,.int .i64 j],[(0,.bun els)]))else none
    |_=>none)
   |_=>none)
  |_=>none)
 |_=>none
theorem aow{T0 E p T1:Nat}{j:Int}{els:List Rw}{rows:List (List AV)}(hr:els[p]?=some (.sl T1 1 rows))(hT:SlS P T0 E 1)(hj:0≤j∧j<rows.length){o:Oper}{N:Nat}{ids:List Nat}{env:Env}{σ:Sto}{s:Stp}{ob:Obs}
  (h:riF T0 o.op env σ=some (s,ob)) (he:ob=([.hnd (.row p) 0,.int .i64 j],[(0,.bun els)])):cz ⟨P,N,ids⟩ o env σ s:=by
 cases ho:o.op<;>rw[ho]at h
 case indexAddr T x y=>
  simp only[riF]at h;split at h
  ·rename_i p' e hx;split at h
   ·rename_i k j' hy;split at h
    ·rename_i els' hb;cases hc:Nat.beq T T0 with
     |false=>rw[hc]at h;cases h
     |true=>
      rw[hc]at h;have:=Nat.eq_of_beq_eq_true hc;subst this;cases h;simp only[Prod.mk.injEq,List.cons.injEq,AV.hnd.injEq,Hk.row.injEq,AV.int.injEq,br.bun.injEq,and_true,true_and]at he;obtain⟨⟨rfl,rfl⟩,rfl⟩:=he;have:=Y.ah3 (G:=⟨P,N,ids⟩) ho (Env.aG hx) (Env.aG hy) hb hr hT hj;rw[Nat.mul_one]at this;exact this
    ·cases h
   ·cases h
  ·cases h
 all_goals (simp only[riF]at h;cases h)
theorem xS{α:Type}{T' sz:Nat}{enc:α→List AV}{l:List (List α)}{i:Int}{r:List α}(h:elO l i=some r):(encS T' sz enc l)[i.toNat]?=some (.sl T' sz (r.map enc)):=by
 simp[encS,(oV h).2.2]
def hri{α:Type}{T0 E T':Nat}{enc:α→List AV}{l:List (List α)}{i j:Int}{r:List α}{c:α}(h:elO l i=some r)(h2:elO r j=some c)(hT:SlS P T0 E 1):Hint P:=
 .gs false ([.hnd (.row i.toNat) 0,.int .i64 j],[(0,.bun (encS T' 1 enc l))]) (λ_=>riF T0) λ_ _ _ _ _ _ _ h' he=>aow (xS h) hT (by have:=oV h2;rw[List.length_map];omega) h' he
def rlF(T0:Nat)(a:AV)(op:Op)(env:Env)(σ:Sto):Option (Stp×Obs):=match op with
 |.load T x=>(match env.evo x with
  |some (.hnd (.jW p off) e)=>(match σ.get e with
   |some (.bun els)=>bif Nat.beq T T0 then some (.y [e] a,([.hnd (.jW p off) 0],[(0,.bun els)]))else none
   |_=>none)
  |_=>none)
 |_=>none
theorem aox{T0 p off T1 sz:Nat}{els:List Rw}{rows:List (List AV)}{a:AV}(hr:els[p]?=some (.sl T1 sz rows))(ha:rows.flatten[off]?=some a)(hT:TyS P T0 1 false){o:Oper}{N:Nat}{ids:List Nat}{env:Env}{σ:Sto}{s:Stp}{ob:Obs}
  (h:rlF T0 a o.op env σ=some (s,ob)) (he:ob=([.hnd (.jW p off) 0],[(0,.bun els)])):cz ⟨P,N,ids⟩ o env σ s:=by
 cases ho:o.op<;>rw[ho]at h
 case load T x=>
  simp only[rlF]at h;split at h
  ·rename_i p' off' e hx;split at h
   ·rename_i els' hb;cases hc:Nat.beq T T0 with
    |false=>rw[hc]at h;cases h
    |true=>
     rw[hc]at h;have:=Nat.eq_of_beq_eq_true hc;subst this;cases h;simp only[Prod.mk.injEq,List.cons.injEq,AV.hnd.injEq,Hk.jW.injEq,br.bun.injEq,and_true,true_and]at he;obtain⟨⟨rfl,rfl⟩,rfl⟩:=he;exact Y.agr ho (Env.aG hx) hb hr ha hT
   ·cases h
  ·cases h
 all_goals (simp only[rlF]at h;cases h)
theorem ah5{α:Type}{enc:α→List AV}{f:α→AV}(hf:∀x,enc x=[f x]){r:List α}{j:Nat}{c:α}(h:r[j]?=some c):(r.map enc).flatten[j]?=some (f c):=by
 have:(r.map enc).flatten=r.map f:=by
  clear h;induction r with
  |nil=>rfl
  |cons x r ih=>simp[hf,ih]
 rw[this,List.getElem?_map,h];rfl
def hrl{α:Type}{T0 T':Nat}{enc:α→List AV}{f:α→AV}{l:List (List α)}{i j:Int}{r:List α}{c:α}(h:elO l i=some r)(h2:elO r j=some c)(hf:∀x,enc x=[f x])(hT:TyS P T0 1 false):Hint P:=
 .gs false ([.hnd (.jW i.toNat j.toNat) 0],[(0,.bun (encS T' 1 enc l))]) (λ_=>rlF T0 (f c)) λ_ _ _ _ _ _ _ h' he=>aox (xS h) (ah5 hf (oV h2).2.2) hT h' he
def rsF(T0:Nat)(aeY:List Rw)(op:Op)(env:Env)(σ:Sto):Option (Stp×Obs):=match op with
 |.store T x y=>(match env.evo x with
  |some (.hnd (.jW p off) e)=>(match env.evo y with
   |some a=>(match σ.get e with
    |some (.bun els)=>bif Nat.beq T T0 then some (.e [e] [] .undef ((e,.bun aeY)::σ.minus [e]),([.hnd (.jW p off) 0,a],[(0,.bun els)]))else none
    |_=>none)
   |_=>none)
  |_=>none)
 |_=>none
theorem aoy{T0 p off T1:Nat}{els aeY:List Rw}{rows:List (List AV)}{a:AV}(hc:a.closed=true)(h1:a.one=true)(hr:els[p]?=some (.sl T1 1 rows))(h2:off<rows.length)(h3:aeY=els.set p (.sl T1 1 (rows.set off [a])))(hT:TyS P T0 1 false){o:Oper}{N:Nat}{ids:List Nat}{env:Env}{σ:Sto}{s:Stp}{ob:Obs}
  (h:rsF T0 aeY o.op env σ=some (s,ob)) (he:ob=([.hnd (.jW p off) 0,a],[(0,.bun els)])):cz ⟨P,N,ids⟩ o env σ s:=by
 cases ho:o.op<;>rw[ho]at h
 case store T x y=>
  simp only[rsF]at h;split at h
  ·rename_i p' off' e hx;split at h
   ·rename_i a' hy;split at h
    ·rename_i els' hb;cases hb2:Nat.beq T T0 with
     |false=>rw[hb2]at h;cases h
     |true=>
      rw[hb2]at h;have:=Nat.eq_of_beq_eq_true hb2;subst this;cases h;simp only[Prod.mk.injEq,List.cons.injEq,AV.hnd.injEq,Hk.jW.injEq,br.bun.injEq,and_true,true_and]at he;obtain⟨⟨⟨rfl,rfl⟩,rfl⟩,rfl⟩:=he;subst h3;exact⟨D.aeX ho (Env.aG hx) (Env.aG hy) hc h1 hb hr h2 hT,rfl⟩
    ·cases h
   ·cases h
  ·cases h
 all_goals (simp only[rsF]at h;cases h)
def hrs{α:Type}{T0 T':Nat}{enc:α→List AV}{f:α→AV}{l:List (List α)}{i j:Int}{r:List α}{c:α}(x:α)(h:elO l i=some r)(h2:elO r j=some c)(hf:∀x,enc x=[f x])(hc:(f x).closed=true)(h1:(f x).one=true)(hT:TyS P T0 1 false):Hint P:=
 .gs true ([.hnd (.jW i.toNat j.toNat) 0,f x],[(0,.bun (encS T' 1 enc l))]) (λ_=>rsF T0 (encS T' 1 enc (l.set i.toNat (r.set j.toNat x)))) λ_ _ _ _ _ _ _ h' he=>
  aoy hc h1 (xS h) (by rw[List.length_map];exact(oV h2).2.1) (by rw[vk,List.map_set,hf]) hT h' he
def rnF(T0:Nat)(n:Nat)(op:Op)(env:Env)(σ:Sto):Option (Stp×Obs):=match op with
 |.call ⟨.builtin .len,args,ks⟩=>(match args.toList,ks.toList with
  |[x],[T]=>(match env.evo x with
   |some (.hnd (.row p) e)=>(match σ.get e with
    |some (.bun els)=>bif Nat.beq T T0 then some (.y [e] (.int .i64 (n:Int)),([.hnd (.row p) 0],[(0,.bun els)]))else none
    |_=>none)
   |_=>none)
  |_,_=>none)
 |_=>none
theorem aoz{T0 E n p T1 sz:Nat}{els:List Rw}{rows:List (List AV)}(hr:els[p]?=some (.sl T1 sz rows))(hn:rows.length=n)(hT:P.underlying T0=some (.slice E)){o:Oper}{N:Nat}{ids:List Nat}{env:Env}{σ:Sto}{s:Stp}{ob:Obs}
  (h:rnF T0 n o.op env σ=some (s,ob)) (he:ob=([.hnd (.row p) 0],[(0,.bun els)])):cz ⟨P,N,ids⟩ o env σ s:=by
 cases ho:o.op with
 |call c=>
  rw[ho]at h;obtain⟨f,args,ks⟩:=c;cases f with
  |builtin b=>
   cases b<;>first|(simp only[rnF]at h;cases h;done)|skip
   simp only[rnF]at h;split at h
   ·rename_i x T hf hk;split at h
    ·rename_i p' e hx;split at h
     ·rename_i els' hb;cases hc:Nat.beq T T0 with
      |false=>rw[hc]at h;cases h
      |true=>
       rw[hc]at h;have:=Nat.eq_of_beq_eq_true hc;subst this;cases h;simp only[Prod.mk.injEq,List.cons.injEq,AV.hnd.injEq,Hk.row.injEq,br.bun.injEq,and_true,true_and]at he;obtain⟨rfl,rfl⟩:=he;have e1:args=#[x]:=by simpa using congrArg List.toArray hf
       have e2:ks=#[T]:=by simpa using congrArg List.toArray hk
       subst e1 e2;subst hn;exact Y.aot ho rfl (Env.aG hx) hb hr hT
     ·cases h
    ·cases h
   ·cases h
  |_=>simp only[rnF]at h;cases h
 |_=>rw[ho]at h;simp only[rnF]at h;cases h
def hrn{α:Type}{T0 E T' sz:Nat}{enc:α→List AV}{l:List (List α)}{i:Int}{r:List α}(h:elO l i=some r)(hT:P.underlying T0=some (.slice E)):Hint P:=
 .gs false ([.hnd (.row i.toNat) 0],[(0,.bun (encS T' sz enc l))]) (λ_=>rnF T0 r.length) λ_ _ _ _ _ _ _ h' he=>aoz (xS h) (by simp) hT h' he
end
structure Vec(n:Nat) where
 l:List Int
 h:l.length=n
def Vec.zero(n:Nat):Vec n:=⟨List.replicate n 0,List.length_replicate⟩
def Vec.put{n:Nat}(v:Vec n)(i:Nat)(x:Int):Vec n:=⟨v.l.set i x,by rw[List.length_set];exact v.h⟩
theorem jq{σ:Sto}{o o0:br}(h:σ.get d=some o0):(σ.set d o).get d=some o:=by rw[Sto.cB,if_pos rfl,h];rfl
theorem pN{σ:Sto}{x:Nat}{o:br}(h:x≠d):(σ.set d o).get x=σ.get x:=by rw[Sto.cB,if_neg h]
theorem td{xs:List Int}:aj cx I β w d (.vec T xs)↔aj cx I β w d (.cells T (xs.map (AV.int .i64))):=by
 simp only[aj];constructor
 ·rintro(h|⟨b,arr,h1,h2,h3,h4⟩)
  ·exact .inl h
  ·exact .inr ⟨b,arr,h1,h2,by rw[h3];exact xK xs,h4⟩
 ·rintro(h|⟨b,arr,h1,h2,h3,h4⟩)
  ·exact .inl h
  ·exact .inr ⟨b,arr,h1,h2,aaq xs _ h3,h4⟩
theorem aX.swap{G:Gl}{σ σ2:Sto}(h:aX G cx I β σ w){o o2:br}(hd:σ.get d=some o)(hd2:σ2.get d=some o2)(hg:∀x,x≠d→σ2.get x=σ.get x)(ho:aj cx I β w d o→aj cx I β w d o2):aX G cx I β σ2 w:=by
 have hS:∀x,(σ2.get x).isSome→(σ.get x).isSome:=λx hx=>by
  by_cases e:x=d
  ·subst e;rw[hd];rfl
  ·rw[←hg x e];exact hx
 refine{h with bB:=λx o' hx=>?_,bQ:=λx y hx hy=>h.bQ x y (hS x hx) (hS y hy)};by_cases e:x=d
 ·subst e;rw[hd2]at hx;cases hx;exact ho (h.bB x o hd)
 ·rw[hg x e]at hx;exact h.bB x o' hx
section
variable {G:Gl}{σ:Sto}{o:Oper}{ev:Operand→AV}
theorem Yields.vec{mat R:List Nat}{av:AV}{d T:Nat}{xs:List Int}(hd:σ.get d=some (.vec T xs))(hdR:d∈R)(h:Yields G o ev (σ.set d (.cells T (xs.map (AV.int .i64)))) mat R av):Yields G o ev σ mat R av:=λσ' cx I β w ρ hR hw hm hop=>by
 have hd':σ'.get d=some (.vec T xs):=by rw[hR d hdR];exact hd
 have hw2:aX G cx I β (σ'.set d (.cells T (xs.map (AV.int .i64)))) w:=hw.swap hd' (jq hd') (λx hx=>pN hx) td.1
 have:=h (σ'.set d (.cells T (xs.map (AV.int .i64)))) cx I β w ρ (λx hx=>by
  by_cases e:x=d
  ·subst e;rw[jq hd',jq hd]
  ·rw[pN e,pN e];exact hR x hx) hw2 hm hop
 generalize (execOp ρ o).run G.P w=r at this;have key:∀v w',(∃I' β',Rep I' β' av v∧aX G cx I' β' (σ'.set d (.cells T (xs.map (AV.int .i64)))) w'∧aQ I I'∧(∀d,d∉mat→β' d=β d))→∃I' β',Rep I' β' av v∧aX G cx I' β' σ' w'∧aQ I I'∧(∀d,d∉mat→β' d=β d):=λv w' ⟨I',β',h1,h2,h3⟩=>⟨I',β',h1,h2.swap (jq hd') hd' (λx hx=>(pN hx).symm) td.2,h3⟩;cases r with
 |halt x w'=>exact this.elim
 |ok n w'=>cases n with
  |value v=>exact key _ _ this
  |skip=>exact key _ _ this
  |enter f args=>exact Calls.mono this λe w'' ⟨v,h1,h2⟩=>⟨v,h1,key _ _ h2⟩
  |_=>exact this.elim
theorem Yields.arr{mat R:List Nat}{xs:List Int}(h:Yields G o ev σ mat R (.agg (xs.map (AV.int .i64)))):Yields G o ev σ mat R (.arr xs):=λσ' cx I β w ρ hR hw hm hop=>by
 have:=h σ' cx I β w ρ hR hw hm hop;generalize (execOp ρ o).run G.P w=r at this;have key:∀v w',(∃I' β',Rep I' β' (.agg (xs.map (AV.int .i64))) v∧aX G cx I' β' σ' w'∧aQ I I'∧(∀d,d∉mat→β' d=β d))→∃I' β',Rep I' β' (.arr xs) v∧aX G cx I' β' σ' w'∧aQ I I'∧(∀d,d∉mat→β' d=β d):=λv w' ⟨I',β',h1,h2⟩=>⟨I',β',aar.1 h1,h2⟩;cases r with
 |halt x w'=>exact this.elim
 |ok n w'=>cases n with
  |value v=>exact key _ _ this
  |skip=>exact key _ _ this
  |enter f args=>exact Calls.mono this λe w'' ⟨v,h1,h2⟩=>⟨v,h1,key _ _ h2⟩
  |_=>exact this.elim
theorem dU.vec{d T T2:Nat}{xs ys:List Int}{r0:AV}{M:List Nat}(hM:M=[d])(hd:σ.get d=some (.vec T xs))
  (h:dU G o ev (σ.set d (.cells T (xs.map (AV.int .i64)))) M [] (λr σ'=>r=r0∧σ'=(σ.set d (.cells T (xs.map (AV.int .i64)))).set d (.cells T2 (ys.map (AV.int .i64))))) :
  dU G o ev σ M [] (λr σ'=>r=r0∧σ'=σ.set d (.vec T2 ys)):=λcx I β w ρ hw hop=>by
 subst hM;have hw2:aX G cx I β (σ.set d (.cells T (xs.map (AV.int .i64)))) w:=hw.swap hd (jq hd) (λx hx=>pN hx) td.1;have:=h cx I β w ρ hw2 hop
 have conv:∀{I' β' w'},aX G cx I' β' ((σ.set d (.cells T (xs.map (AV.int .i64)))).set d (.cells T2 (ys.map (AV.int .i64)))) w'→aX G cx I' β' (σ.set d (.vec T2 ys)) w':=λh2=>
  h2.swap (d:=d) (jq (jq hd)) (jq hd) (λx hx=>by rw[pN hx,pN hx,pN hx]) td.2
 have mg:∀x,x∉[d]→(σ.set d (.vec T2 ys)).get x=σ.get x:=λx hx=>pN (by simpa using hx);generalize (execOp ρ o).run G.P w=r at this
 have key:∀v w',(∃av σ' I' β',(av=r0∧σ'=(σ.set d (.cells T (xs.map (AV.int .i64)))).set d (.cells T2 (ys.map (AV.int .i64))))∧Rep I' β' av v∧aX G cx I' β' σ' w'∧aQ I I'∧(∀x,x∉([]:List Nat)→β' x=β x)∧(∀x,x∉[d]→σ'.get x=(σ.set d (.cells T (xs.map (AV.int .i64)))).get x))→∃av σ' I' β',(av=r0∧σ'=σ.set d (.vec T2 ys))∧Rep I' β' av v∧aX G cx I' β' σ' w'∧aQ I I'∧(∀x,x∉([]:List Nat)→β' x=β x)∧(∀x,x∉[d]→σ'.get x=σ.get x):=λv w' ⟨a,σ',I',β',⟨h0,h1⟩,h2,h3,h4,h5,_⟩=>by
  subst h0 h1;exact⟨a,_,I',β',⟨rfl,rfl⟩,h2,conv h3,h4,h5,mg⟩
 cases r with
 |halt x w'=>exact this.elim
 |ok n w'=>cases n with
  |value v=>exact key _ _ this
  |skip=>exact key _ _ this
  |enter f args=>exact Calls.mono this λe w'' ⟨v,h1,h2⟩=>⟨v,h1,key _ _ h2⟩
  |_=>exact this.elim
end
section
variable {P:Program}
def vaF(T0 d:Nat)(xs:List Int)(op:Op)(ids:List Nat):Option (Stp×Obs):=match op with
 |.alloc T=>bif Nat.beq T T0&&!ids.contains d then some (.v d (.vec T xs) (.ptr d 0),([],[]))else none
 |_=>none
theorem aoA{T0 d:Nat}{xs:List Int}{zs:List Value}(hz:∀w,∃z,(zeroValue T0).run P w=.ok z w∧z.cells=zs.toArray)(hv:lq zs=xs.map (AV.int .i64)){o:Oper}{N:Nat}{ids:List Nat}{env:Env}{σ:Sto}{s:Stp}{ob:Obs}
  (h:vaF T0 d xs o.op ids=some (s,ob)):cz ⟨P,N,ids⟩ o env σ s:=by
 cases ho:o.op<;>rw[ho]at h
 case alloc T=>
  simp only[vaF]at h;cases hc:(Nat.beq T T0&&!ids.contains d)with
  |false=>rw[hc]at h;cases h
  |true=>
   rw[hc]at h;simp only[Bool.and_eq_true,Bool.not_eq_true']at hc;have:=Nat.eq_of_beq_eq_true hc.1;subst this;cases h;refine⟨hc.2,Yields.vec (T:=T) (xs:=xs) (by rw[Sto.aK,if_pos rfl]) (by simp) ?_⟩;refine Yields.sto (σ:=(d,.cells T (lq zs))::σ) (λx hx=>?_) (Y.alloc ho hz hc.2);rw[List.mem_singleton.1 hx,jq (o0:=.vec T xs) (by rw[Sto.aK,if_pos rfl]),Sto.aK,if_pos rfl,hv]
 all_goals (simp only[vaF]at h;cases h)
def hva{T0 n:Nat}{zs:List Value}(d:Nat)(v:Vec n)(hz:∀w,∃z,(zeroValue T0).run P w=.ok z w∧z.cells=zs.toArray)(hv:lq zs=v.l.map (AV.int .i64)):Hint P:=
 .gs false ([],[]) (λids op _ _=>vaF T0 d v.l op ids) λ_ _ _ _ _ _ _ h' _=>aoA hz hv h'
def viF(T0:Nat)(op:Op)(env:Env):Option (Stp×Obs):=match op with
 |.indexAddr T x y=>(match env.evo x with
  |some (.ptr d off)=>(match env.evo y with
   |some (.int k i)=>bif Nat.beq T T0 then some (.y [] (.ptr d i.toNat),([.ptr 0 off,.int .i64 i],[]))else none
   |_=>none)
  |_=>none)
 |_=>none
theorem aoB{T0 N0 E:Nat}{i:Int}(hu:P.underlying T0=some (.array N0 E))(hs:∀w,(sizeOf E).run P w=.ok 1 w)(hi:0≤i∧i<N0){o:Oper}{N:Nat}{ids:List Nat}{env:Env}{σ:Sto}{s:Stp}{ob:Obs}
  (h:viF T0 o.op env=some (s,ob)) (he:ob=([.ptr 0 0,.int .i64 i],[])):cz ⟨P,N,ids⟩ o env σ s:=by
 cases ho:o.op<;>rw[ho]at h
 case indexAddr T x y=>
  simp only[viF]at h;split at h
  ·rename_i d off hx;split at h
   ·rename_i k i' hy;cases hc:Nat.beq T T0 with
    |false=>rw[hc]at h;cases h
    |true=>
     rw[hc]at h;have:=Nat.eq_of_beq_eq_true hc;subst this;cases h;simp only[Prod.mk.injEq,List.cons.injEq,AV.ptr.injEq,AV.int.injEq,and_true,true_and]at he;obtain⟨rfl,rfl⟩:=he;have:=Y.agi (G:=⟨P,N,ids⟩) (σ:=σ) ho (Env.aG hx) (Env.aG hy) hu hs hi;rw[Nat.mul_one,Nat.zero_add]at this;exact this
   ·cases h
  ·cases h
 all_goals (simp only[viF]at h;cases h)
def hvi{T0 N0 E:Nat}{v:Vec N0}{i c:Int}(h:elO v.l i=some c)(hu:P.underlying T0=some (.array N0 E))(hs:∀w,(sizeOf E).run P w=.ok 1 w):Hint P:=
 .gs false ([.ptr 0 0,.int .i64 i],[]) (λ_ op env _=>viF T0 op env) λ_ _ _ _ _ _ _ h' he=>aoB hu hs (by have:=oV h;have:=v.h;omega) h' he
def vlF(T0:Nat)(a:AV)(op:Op)(env:Env)(σ:Sto):Option (Stp×Obs):=match op with
 |.load T x=>(match env.evo x with
  |some (.ptr d p)=>(match σ.get d with
   |some (.vec T1 xs)=>bif Nat.beq T T0 then some (.y [d] a,([.ptr 0 p],[(0,.vec 0 xs)]))else none
   |_=>none)
  |_=>none)
 |_=>none
theorem aoC{T0 p:Nat}{xs:List Int}{c:Int}(hT:TyS P T0 1 false)(hc:xs[p]?=some c){o:Oper}{N:Nat}{ids:List Nat}{env:Env}{σ:Sto}{s:Stp}{ob:Obs}
  (h:vlF T0 (.int .i64 c) o.op env σ=some (s,ob)) (he:ob=([.ptr 0 p],[(0,.vec 0 xs)])):cz ⟨P,N,ids⟩ o env σ s:=by
 cases ho:o.op<;>rw[ho]at h
 case load T x=>
  simp only[vlF]at h;split at h
  ·rename_i d p' hx;split at h
   ·rename_i T1 xs' hd;cases hb:Nat.beq T T0 with
    |false=>rw[hb]at h;cases h
    |true=>
     rw[hb]at h;have:=Nat.eq_of_beq_eq_true hb;subst this;cases h;simp only[Prod.mk.injEq,List.cons.injEq,AV.ptr.injEq,br.vec.injEq,and_true,true_and]at he;obtain⟨rfl,rfl⟩:=he;refine Yields.vec hd (by simp) ?_;have hlt:=(List.getElem?_eq_some_iff.1 hc).1;have:=Y.zz (G:=⟨P,N,ids⟩) (σ:=σ.set d (.cells T1 (xs'.map (AV.int .i64)))) ho (Env.aG hx) (jq hd) hT rfl (by simp;omega);rw[show lD false 1 ((xs'.map (AV.int .i64)).drop p')=.int .i64 c by
      simp only[lD,cond_false,←List.map_drop,List.headD_eq_head?_getD,List.head?_map,List.head?_drop,hc];rfl]at this
     exact this
   ·cases h
  ·cases h
 all_goals (simp only[vlF]at h;cases h)
def hvl{T0 N0:Nat}{v:Vec N0}{i c:Int}(h:elO v.l i=some c)(hT:TyS P T0 1 false):Hint P:=
 .gs false ([.ptr 0 i.toNat],[(0,.vec 0 v.l)]) (λ_=>vlF T0 (.int .i64 c)) λ_ _ _ _ _ _ _ h' he=>aoC hT (oV h).2.2 h' he
def vwF(T0:Nat)(op:Op)(env:Env)(σ:Sto):Option (Stp×Obs):=match op with
 |.load T x=>(match env.evo x with
  |some (.ptr d p)=>(match σ.get d with
   |some (.vec T1 xs)=>bif Nat.beq T T0 then some (.y [d] (.arr xs),([.ptr 0 p],[(0,.vec 0 xs)]))else none
   |_=>none)
  |_=>none)
 |_=>none
theorem aoD{T0 N0:Nat}{v:Vec N0}(hT:TyS P T0 N0 true){o:Oper}{N:Nat}{ids:List Nat}{env:Env}{σ:Sto}{s:Stp}{ob:Obs}
  (h:vwF T0 o.op env σ=some (s,ob)) (he:ob=([.ptr 0 0],[(0,.vec 0 v.l)])):cz ⟨P,N,ids⟩ o env σ s:=by
 cases ho:o.op<;>rw[ho]at h
 case load T x=>
  simp only[vwF]at h;split at h
  ·rename_i d p' hx;split at h
   ·rename_i T1 xs' hd;cases hc:Nat.beq T T0 with
    |false=>rw[hc]at h;cases h
    |true=>
     rw[hc]at h;have:=Nat.eq_of_beq_eq_true hc;subst this;cases h;simp only[Prod.mk.injEq,List.cons.injEq,AV.ptr.injEq,br.vec.injEq,and_true,true_and]at he;obtain⟨rfl,rfl⟩:=he;refine Yields.vec hd (by simp) (Yields.arr ?_);have:=Y.zz (G:=⟨P,N,ids⟩) (σ:=σ.set d (.cells T1 (v.l.map (AV.int .i64)))) ho (Env.aG hx) (jq hd) hT rfl (by simp[v.h]);simp only[lD,cond_true,List.drop_zero]at this;rw[List.take_of_length_le (by simp[v.h])]at this;exact this
   ·cases h
  ·cases h
 all_goals (simp only[vwF]at h;cases h)
def hvw{T0 N0:Nat}(v:Vec N0)(hT:TyS P T0 N0 true):Hint P:=
 .gs false ([.ptr 0 0],[(0,.vec 0 v.l)]) (λ_=>vwF T0) λ_ _ _ _ _ _ _ h' he=>aoD hT h' he
def vsF(T0:Nat)(ys:List Int)(op:Op)(env:Env)(σ:Sto):Option (Stp×Obs):=match op with
 |.store T x y=>(match env.evo x with
  |some (.ptr d p)=>(match env.evo y with
   |some a=>(match σ.get d with
    |some (.vec T1 xs)=>bif Nat.beq T T0 then some (.e [d] [] .undef (σ.set d (.vec T1 ys)),([.ptr 0 p,a],[(0,.vec 0 xs)]))else none
    |_=>none)
   |_=>none)
  |_=>none)
 |_=>none
theorem aeZ{α:Type}{l:List α}{p:Nat}{x:α}(h:p<l.length):cG l p [x]=l.set p x:=by
 apply List.ext_getElem?;intro k;simp only[cG,List.length_singleton,List.getElem?_set];by_cases hk:p=k
 ·subst hk;rw[if_pos rfl,if_pos h,List.append_assoc,List.getElem?_append_right (by simp;omega),List.length_take,Nat.min_eq_left (by omega)];simp
 ·rw[if_neg hk];by_cases hlt:k<p
  ·rw[List.append_assoc,List.getElem?_append_left (by simp;omega),List.getElem?_take,if_pos hlt]
  ·rw[List.getElem?_append_right (by simp;omega),List.getElem?_drop];congr 1;simp only[List.length_append,List.length_take,List.length_singleton];omega
theorem aoE{T0 p:Nat}{xs:List Int}{z:Int}(hT:TyS P T0 1 false)(hp:p<xs.length){o:Oper}{N:Nat}{ids:List Nat}{env:Env}{σ:Sto}{s:Stp}{ob:Obs}
  (h:vsF T0 (xs.set p z) o.op env σ=some (s,ob)) (he:ob=([.ptr 0 p,.int .i64 z],[(0,.vec 0 xs)])):cz ⟨P,N,ids⟩ o env σ s:=by
 cases ho:o.op<;>rw[ho]at h
 case store T x y=>
  simp only[vsF]at h;split at h
  ·rename_i d p' hx;split at h
   ·rename_i a' hy;split at h
    ·rename_i T1 xs' hd;cases hc:Nat.beq T T0 with
     |false=>rw[hc]at h;cases h
     |true=>
      rw[hc]at h;have:=Nat.eq_of_beq_eq_true hc;subst this;cases h;simp only[Prod.mk.injEq,List.cons.injEq,AV.ptr.injEq,br.vec.injEq,and_true,true_and]at he;obtain⟨⟨rfl,rfl⟩,rfl⟩:=he;refine⟨dU.vec rfl hd ?_,rfl⟩;have:=D.wG (G:=⟨P,N,ids⟩) (σ:=σ.set d (.cells T1 (xs'.map (AV.int .i64)))) ho (Env.aG hx) (Env.aG hy) (jq hd) hT.size rfl rfl (by simp;omega);rw[show cG (xs'.map (AV.int .i64)) p' (fB (.int .i64 z))=(xs'.set p' z).map (AV.int .i64)by
       rw[show fB (.int .i64 z)=[.int .i64 z]from rfl,aeZ (by simp;omega),List.map_set]]at this
      exact this
    ·cases h
   ·cases h
  ·cases h
 all_goals (simp only[vsF]at h;cases h)
def hvs{T0 N0:Nat}{v:Vec N0}{i c:Int}(x:Int)(h:elO v.l i=some c)(hT:TyS P T0 1 false):Hint P:=
 .gs true ([.ptr 0 i.toNat,.int .i64 x],[(0,.vec 0 v.l)]) (λ_=>vsF T0 (v.put i.toNat x).l) λ_ _ _ _ _ _ _ h' he=>aoE hT (oV h).2.1 h' he
theorem D.ah6{G:Gl}{σ:Sto}{o:Oper}{ev:Operand→AV}{T T' d n:Nat}{x y:Operand}{xs:List Int}{cs:List AV}(h:o.op=.store T x y)(hx:ev x=.ptr d 0)(hy:ev y=.arr xs)(hd:σ.get d=some (.cells T' cs))(hT:∀w,(sizeOf T).run G.P w=.ok n w)(hn:xs.length=n)(hl:cs.length=n):
  dU G o ev σ [d] [] (λr σ'=>r=.undef∧σ'=σ.set d (.cells T' (xs.map (AV.int .i64)))):=by
 have hf:(AV.agg (xs.map (AV.int .i64))).flat=true:=by
  show(xs.map (AV.int .i64)).all AV.one=true;rw[List.all_eq_true];intro a ha;obtain⟨x,_,rfl⟩:=List.mem_map.1 ha;rfl
 have hlen:(fB (AV.agg (xs.map (AV.int .i64)))).length=n:=by simp[fB,hn]
 have hs:cG cs 0 (fB (AV.agg (xs.map (AV.int .i64))))=xs.map (AV.int .i64):=by
  simp only[cG,fB,List.take_zero,List.nil_append,Nat.zero_add];rw[List.drop_eq_nil_of_le (by simp;omega),List.append_nil]
 intro cx I β w ρ hw hop
 letI:DecidableEq Operand:=λ_ _=>Classical.propDecidable _
 let ev':Operand→AV:=λz=>if z=y then .agg (xs.map (AV.int .i64))else ev z
 have hxy:x≠y:=λe=>by rw[e,hy]at hx;cases hx
 have:=D.wG (G:=G) (σ:=σ) (o:=o) (ev:=ev') (T':=T') h (show ev' x=.ptr d 0 by simp[ev',hxy,hx]) (show ev' y=AV.agg (xs.map (AV.int .i64))by simp[ev']) hd hT hf hlen (by omega);rw[hs]at this;refine this cx I β w ρ hw λz hz=>?_;show Rep I β (if z=y then _ else ev z) (ρ z);split
 ·rename_i e;subst e
  have:=hop z hz;rw[hy]at this;exact aar.2 this
 ·exact hop z hz
def vtF(T0:Nat)(op:Op)(env:Env)(σ:Sto):Option (Stp×Obs):=match op with
 |.store T x y=>(match env.evo x with
  |some (.ptr d p)=>(match env.evo y with
   |some (.arr ys)=>(match σ.get d with
    |some (.vec T1 xs)=>bif Nat.beq T T0 then some (.e [d] [] .undef (σ.set d (.vec T1 ys)),([.ptr 0 p,.arr ys],[(0,.vec 0 xs)]))else none
    |_=>none)
   |_=>none)
  |_=>none)
 |_=>none
theorem aoF{T0 N0:Nat}{v u:Vec N0}(hT:∀w,(sizeOf T0).run P w=.ok N0 w){o:Oper}{N:Nat}{ids:List Nat}{env:Env}{σ:Sto}{s:Stp}{ob:Obs}
  (h:vtF T0 o.op env σ=some (s,ob)) (he:ob=([.ptr 0 0,.arr u.l],[(0,.vec 0 v.l)])):cz ⟨P,N,ids⟩ o env σ s:=by
 cases ho:o.op<;>rw[ho]at h
 case store T x y=>
  simp only[vtF]at h;split at h
  ·rename_i d p' hx;split at h
   ·rename_i ys hy;split at h
    ·rename_i T1 xs hd;cases hc:Nat.beq T T0 with
     |false=>rw[hc]at h;cases h
     |true=>
      rw[hc]at h;have:=Nat.eq_of_beq_eq_true hc;subst this;cases h;simp only[Prod.mk.injEq,List.cons.injEq,AV.ptr.injEq,AV.arr.injEq,br.vec.injEq,and_true,true_and]at he;obtain⟨⟨rfl,rfl⟩,rfl⟩:=he;exact⟨dU.vec rfl hd (D.ah6 ho (Env.aG hx) (Env.aG hy) (jq hd) hT u.h (by simp[v.h])),rfl⟩
    ·cases h
   ·cases h
  ·cases h
 all_goals (simp only[vtF]at h;cases h)
def hvt{T0 N0:Nat}(v u:Vec N0)(hT:∀w,(sizeOf T0).run P w=.ok N0 w):Hint P:=
 .gs true ([.ptr 0 0,.arr u.l],[(0,.vec 0 v.l)]) (λ_=>vtF T0) λ_ _ _ _ _ _ _ h' he=>aoF hT h' he
theorem A.finV{N:Nat}{ids:List Nat}{tb:Tb}(W:Wld P tb){fn:Func}{env e1:Env}{σ s1 σ2:Sto}{x R:AV}{e:Exit}(ms:List Mv)(he:(match e with|.ret|.normal=>true|_=>false)=true)(hm:uZ ids ms env σ=some (e1,s1))(hr:qg ⟨P,N,ids⟩ e1 s1 fn.results.toList x)(hs:eB σ2.ids s1 x=some R)(ha:s1.at σ2.ids=some σ2):
  nO ⟨P,N,ids⟩ fn (λa σ'=>a=R∧σ'=σ2) e env σ:=by
 refine⟨e1,s1,ql hm,?_⟩;have key:∃fz x r σ',qg ⟨P,N,ids⟩ e1 (s1.freeze fz) fn.results.toList x∧eT (s1.freeze fz) x r∧(∀p∈σ',(s1.freeze fz).get p.1=some p.2)∧(r=R∧σ'=σ2):=by
  refine⟨[],x,R,σ2,?_,?_,?_,rfl,rfl⟩
  ·rw[Sto.me];exact hr
  ·rw[Sto.me];exact iC hs
  ·rw[Sto.me];exact(Sto.iQ ha).1.mem
 cases e<;>first|exact key|cases he
end
end Go.Proofs.YtmnbolcmepihlaaGreat
