/- An entry of an own map, first made, then stored; slices jH last map is frozen. No condition but aX aH stand in each. -/
import Derived.Test.YtmnbolcmepihlaaC6
namespace Go.Proofs.Ytmnbolcmepihlaa
set_option linter.all false
open Go
theorem aN.ae2{G:Gl}{env:Env}{σ:Sto}(d t:Nat){T K E:Nat}{xs:List (List AV)}{aD:List (AV×AV)}(hd:σ.get d=some (.slm T xs t))(ht:σ.get t=some (.gl K E aD)):
  aN G env σ env (σ.set d (.slice T 1 (xs++[[.mpf aD]]) 0 false)):=λcx I β a w h h'=>by
 refine⟨I,β,rT hd h ?_,h'⟩
 have ho:=h.aT d _ hd
 have hm:=h.aT t _ ht
 simp only[aa]at ho hm ⊢
 rcases ho with q|⟨b,cap,arr,q1,q2,q3,q4,q5,q6,q7,q8,q9,q10,q11⟩
 ·exact .inl q
 ·obtain⟨r,es,clock,p1,p2,p3,p4,p5⟩:=hm.resolve_left q9
  refine .inr (.inr ⟨b,cap,arr,by rw[q1];simp,by simpa using q2,q3,q4,by omega,?_,λe he=>?_,by simp,by simp,λo _=>q10 o,q11⟩)
  ·have hlt:xs.length<arr.toList.length:=by simpa using (Array.getElem?_eq_some_iff.1 q8).1
   have e1:arr.toList[xs.length]?=some (β t):=by simpa using q8
   have e2:arr.toList.take ((xs++[[AV.mpf aD]]).length*1)=arr.toList.take xs.length++[β t]:=by
    rw[List.length_append,List.length_singleton,Nat.mul_one,List.take_add_one,e1];rfl
   rw[e2,List.flatten_append]
   refine(cm _ _ _).2 ⟨_,_,rfl,q6,?_⟩
   simp only[List.flatten_cons,List.flatten_nil,List.append_nil,aR,aj]
   exact⟨β t,[],rfl,⟨r,es,clock,p1,p2,p3,p5⟩,rfl⟩
  ·rcases List.mem_append.1 he with he|he
   ·exact q7 e he
   ·rw[List.mem_singleton.1 he];rfl
def meB(k:IntKind)(n:Int)(es:Array MapEntry)(clock:Nat):Nat:=match Instr.findNow (.int k) (.int k n) es.toList 0 with
 |some (some (j,_))=>((es[j]?).map (·.born)).getD 0
 |_=>clock
def eT(k:IntKind)(n:Int)(z:Value)(es:Array MapEntry)(clock:Nat):Array MapEntry:=match Instr.findNow (.int k) (.int k n) es.toList 0 with
 |some (some _)=>es
 |_=>es.push ⟨.int k n,z,clock⟩
def kW(k:IntKind)(n:Int)(es:Array MapEntry)(clock:Nat):Nat:=match Instr.findNow (.int k) (.int k n) es.toList 0 with
 |some (some _)=>clock
 |_=>clock+1
theorem nL(kd:TypeDesc)(key:Value)(B:List MapEntry):∀(A:List MapEntry) (i:Nat),Instr.findNow kd key A i=some none→Instr.findNow kd key (A++B) i=Instr.findNow kd key B (i+A.length)
 |[],i,_=>rfl
 |e::A,i,h=>by
  simp only[Instr.findNow,List.cons_append]at h ⊢
  cases hs:Instr.sameNow kd key e.key with
  |none=>rw[hs]at h;cases h
  |some b=>
   cases b with
   |true=>rw[hs]at h;cases h
   |false=>
    rw[hs]at h
    simp only at h ⊢
    rw[nL kd key B A (i+1) h,List.length_cons]
    congr 1;omega
theorem wJ{α:Type}{l:Array α}{j:Nat}{f:α→α}(h:∀e,l[j]?=some e→f e=e):l.modify j f=l:=by
 apply Array.ext_getElem?
 intro i
 rw[Array.getElem?_modify]
 split
 ·rename_i hj
  subst hj
  cases he:l[j]? with
  |none=>rfl
  |some e=>simp[h e he]
 ·rfl
theorem lB{α:Type}(n:Int)(v:α):∀l:List (Int×α),aM (bt l n v) n=some v
 |[]=>by simp[bt,aM]
 |p::r=>by
  unfold bt
  split
  ·simp[aM]
  ·rename_i hp
   have:=lB n v r
   unfold aM at this ⊢
   rw[List.find?_cons_of_neg (by simpa using hp)]
   exact this
theorem uD{α:Type}{n:Int}:∀{l:List (Int×α)} {v:α},aM l n=some v→bt l n v=l
 |[],_,h=>by simp[aM]at h
 |p::r,v,h=>by
  unfold bt
  unfold aM at h
  split
  ·rename_i hp
   rw[List.find?_cons_of_pos (by simpa using hp)]at h
   simp at h
   obtain⟨p1,p2⟩:=p
   simp only at hp h
   rw[hp,h]
  ·rename_i hp
   rw[List.find?_cons_of_neg (by simpa using hp)]at h
   rw[uD (l:=r) h]
theorem pW{α:Type}(n:Int)(u v:α):∀l:List (Int×α),bt (bt l n u) n v=bt l n v
 |[]=>by simp[bt]
 |p::r=>by
  by_cases hp:p.1=n
  ·simp[bt,hp]
  ·simp[bt,hp,pW n u v r]
section
variable {G:Gl}{σ:Sto}{o:Oper}{ev:Operand→AV}
theorem D.yM{α:Type}{T K E d clock:Nat}{k:IntKind}{x y:Operand}{n:Int}{es:Array MapEntry}{z:Value}(l:List (Int×α))(enc:α→AV)(za:α)(h:o.op=.mapEntry T x y)(hx:ev x=.b9 d)(hy:ev y=.int k n)
  (hd:σ.get d=some (.dn es clock K E (bu k enc l))) (hT:gX G.P T K E k) (hz:∀w,(zeroValue E).run G.P w=.ok z w) (hzc:∀I,aj I (enc za) z) :
  dV G o ev σ [d] [] (λr σ'=>r=.tup [.cB,.int .i64 (meB k n es clock:Int)]∧σ'=σ.set d (.dn (eT k n z es clock) (kW k n es clock) K E (bu k enc (bt l n ((aM l n).getD za))))):=by
 intro cx I β w ρ hw hop
 have h1:=hop x (by simp[h,Op.operands]);rw[hx]at h1
 have h2:=hop y (by simp[h,Op.operands]);rw[hy]at h2;have h2:=cw h2
 simp only[Rep]at h1
 obtain⟨h1,h1m⟩:=h1
 have hdn:β d≠.nilFunc:=λe=>by rw[h1,e]at h1m;simp[gQ]at h1m
 have ho:=hw.aT d _ hd
 simp only[aa,hdn,false_or]at ho
 obtain⟨r,q1,q2,q3,q4,q5,q6⟩:=ho
 have e1:∀w,(underlying T).run G.P w=.ok (.map K E) w:=λw=>by simp[underlying,program,Sem.run,hT.und]
 have e2:∀w,(underlying K).run G.P w=.ok (.int k) w:=λw=>by simp[underlying,program,Sem.run,hT.key]
 have e3:=gG (P:=G.P) q2
 have e4:=iI (P:=G.P) hT.key false n w
 have dK:∀ob:Obj,(setObj r ob).run G.P w=.ok () {w with heap:=w.heap.setIfInBounds r ob}:=λob=>by
  have:=aY q2
  simp[setObj,Sem.run,q2]
 have q0:ρ x=.map (some r):=by rw[h1,q1]
 have main:∃v,(execOp ρ o).run G.P w=.ok (.value (.tuple #[v,.int .i64 (meB k n es clock:Int)])) {w with heap:=w.heap.setIfInBounds r (.map (eT k n z es clock) (kW k n es clock))}∧dh I (bu k enc (bt l n ((aM l n).getD za))) (eT k n z es clock).toList∧fe (eT k n z es clock) (kW k n es clock):=by
  cases hg:aM l n with
  |none=>
   obtain⟨p1,p2⟩:=iX n l es.toList 0 q3 hg
   have e5:(Instr.findKey K (.int k n) es.toList).run G.P w=.ok none w:=by simp[Instr.findKey,e2,p1]
   have b1:meB k n es clock=clock:=by unfold meB;rw[p1]
   have b2:eT k n z es clock=es.push ⟨.int k n,z,clock⟩:=by unfold eT;rw[p1]
   have b3:kW k n es clock=clock+1:=by unfold kW;rw[p1]
   rw[b1,b2,b3]
   refine⟨z,by simp[execOp,h,Instr.mapEntry,q0,h2,e1,e3,e4,e5,dK,hz,goInt],?_,q6.push _ _⟩
   simpa using p2 za ⟨.int k n,z,clock⟩ (hzc I) rfl
  |some a=>
   obtain⟨j,u,p1,p2,e',p3,p4,p5⟩:=iW n l es.toList 0 a q3 hg
   have e5:(Instr.findKey K (.int k n) es.toList).run G.P w=.ok (some (0+j,u)) w:=by simp[Instr.findKey,e2,p1]
   have e6:es[j]?=some e':=by simpa using p3
   have e7:(Instr.keyThatStays (.int k n) (.int k n)).run G.P w=.ok (.int k n) w:=by simp[Instr.keyThatStays,Instr.sameBits]
   have b1:meB k n es clock=e'.born:=by unfold meB;rw[p1];simp[e6]
   have b2:eT k n z es clock=es:=by unfold eT;rw[p1]
   have b3:kW k n es clock=clock:=by unfold kW;rw[p1]
   have b4:es.modify j (λe=>{e with key:=.int k n})=es:=wJ λe he=>by
    rw[e6]at he;cases he;rw[←p4]
   rw[b1,b2,b3]
   refine⟨u,by simp[execOp,h,Instr.mapEntry,q0,h2,e1,e3,e4,e5,dK,e6,p4,e7,goInt,b4],?_,q6⟩
   rw[show(some a:Option α).getD za=a from rfl,uD hg]
   exact q3
 obtain⟨v,hrun,hE,hB⟩:=main
 rw[hrun]
 refine⟨.tup [.cB,.int .i64 (meB k n es clock:Int)],_,I,β,⟨rfl,rfl⟩,by simp[Rep,aI,aj],?_,aF.refl I,λ_ _=>rfl,λx hx=>by rw[Sto.ck,if_neg (by simpa using hx)]⟩
 have hbd:blk (β d)=some r:=by rw[q1];rfl
 refine hw.turn (d:=d) (Kept.setObj w r _) q5 (λx hx=>by rw[Sto.ck,if_neg hx]) (λx hx hs e=>hw.bp x d hs (by rw[hd];rfl) hx r e (cq hbd)) (aF.refl I) (λ_ _ _=>rfl)
  (λo v hv=>by rw[q4 o]at hv;cases hv) (q4 none) (λ_ _=>rfl) (.inr rfl) (HLe.refl β) (.inl hbd) λob hob=>?_
 rw[Sto.ck,if_pos rfl,hd]at hob
 injection hob with hob
 subst hob
 simp only[aa]
 exact .inr ⟨r,q1,by have:=aY q2;simp[Array.getElem?_setIfInBounds,this],hE,q4,q5,hB⟩
theorem ahy{I:Imm}{α:Type}{k:IntKind}{n:Int}{es:Array MapEntry}{clock:Nat}{z:Value}{l:List (Int×α)}{enc:α→AV}{a:α}(hE:dh I (bu k enc l) (eT k n z es clock).toList)(hB:fe (eT k n z es clock) (kW k n es clock))(hg:aM l n=some a):
  ∃j e,(eT k n z es clock).findIdx? (λe=>(e.born:Int)==(meB k n es clock:Int))=some j∧(eT k n z es clock)[j]?=some e∧e.key=.int k n∧
   ∀(b:α) (u:Value),aj I (enc b) u→dh I (bu k enc (bt l n b)) ((eT k n z es clock).modify j λe=>{e with val:=u}).toList:=by
 obtain⟨j,u,p1,p2,e',p3,p4,p5⟩:=iW n l _ 0 a hE hg
 have hb:e'.born=meB k n es clock:=by
  cases hf:Instr.findNow (.int k) (.int k n) es.toList 0 with
  |none=>
   have b1:meB k n es clock=clock:=by unfold meB;rw[hf]
   have b2:eT k n z es clock=es.push ⟨.int k n,z,clock⟩:=by unfold eT;rw[hf]
   rw[b2]at p1
   exfalso
   rw[Array.toList_push]at p1
   have:∀(A B:List MapEntry) (i:Nat),Instr.findNow (.int k) (.int k n) A i=none→Instr.findNow (.int k) (.int k n) (A++B) i=none:=by
    intro A B
    induction A with
    |nil=>intro i h;cases h
    |cons c A ih=>
     intro i h
     simp only[Instr.findNow,List.cons_append]at h ⊢
     cases hs:Instr.sameNow (.int k) (.int k n) c.key with
     |none=>rfl
     |some b=>
      cases b with
      |true=>rw[hs]at h;cases h
      |false=>rw[hs]at h;exact ih (i+1) h
   rw[this _ _ 0 hf]at p1
   cases p1
  |some q=>
   cases q with
   |none=>
    have b1:meB k n es clock=clock:=by unfold meB;rw[hf]
    have b2:eT k n z es clock=es.push ⟨.int k n,z,clock⟩:=by unfold eT;rw[hf]
    rw[b2,Array.toList_push,nL _ _ _ _ _ hf]at p1
    have hj:j=es.size:=by
     simp only[Instr.findNow]at p1
     cases hs:Instr.sameNow (.int k) (.int k n) (Value.int k n)with
     |none=>rw[hs]at p1;cases p1
     |some b=>
      cases b with
      |true=>rw[hs]at p1;simp at p1;omega
      |false=>rw[hs]at p1;cases p1
    rw[b2,hj]at p3
    simp at p3
    rw[←p3,b1]
   |some q=>
    obtain⟨j0,v0⟩:=q
    have b2:eT k n z es clock=es:=by unfold eT;rw[hf]
    rw[b2,hf]at p1
    have hj:j0=j:=by simp at p1;omega
    rw[b2]at p3
    have b1:meB k n es clock=((es[j0]?).map (·.born)).getD 0:=by unfold meB;rw[hf]
    have:es[j]?=some e':=by simpa using p3
    rw[b1,hj,this];rfl
 have e6:(eT k n z es clock)[j]?=some e':=by simpa using p3
 refine⟨j,e',?_,e6,p4,λb u hu=>?_⟩
 ·rw[Array.findIdx?_eq_some_iff_getElem]
  obtain⟨hlt,he⟩:=Array.getElem?_eq_some_iff.1 e6
  refine⟨hlt,by rw[he];simp[hb],λi hi=>?_⟩
  intro hc
  have hc:(eT k n z es clock)[i].born=meB k n es clock:=by
   have:((eT k n z es clock)[i].born:Int)=(meB k n es clock:Int):=by simpa using hc
   omega
  have h1:=hB.1
  have:=List.pairwise_iff_getElem.1 h1 i j (by simp;omega) (by simpa using hlt) hi
  apply this
  simp only[List.getElem_map,Array.getElem_toList]
  rw[hc,he,hb]
 ·have:=p5 b u (λe=>{e with key:=.int k n,val:=u}) hu (λe=>⟨rfl,rfl⟩)
  have e7:((eT k n z es clock).modify j λe=>{e with val:=u}).toList=(eT k n z es clock).toList.modify j λe=>{e with key:=.int k n,val:=u}:=by
   rw[Array.toList_modify]
   apply List.ext_getElem?
   intro i
   rw[List.getElem?_modify,List.getElem?_modify]
   by_cases hij:j=i
   ·subst hij
    rw[p3]
    simp[←p4]
   ·simp[hij]
  rw[e7]
  exact this
theorem D.wK{α:Type}{T K E d clock:Nat}{k:IntKind}{x y v:Operand}{n:Int}{es:Array MapEntry}{z:Value}{a0:α}(l:List (Int×α))(enc:α→AV)(a:α)(h:o.op=.entryStore T x y v)(hx:ev x=.b9 d)(hy:ev y=.int .i64 (meB k n es clock:Int))(hv:ev v=enc a)(hc:(enc a).closed=true)
  (hd:σ.get d=some (.dn (eT k n z es clock) (kW k n es clock) K E (bu k enc l))) (hg:aM l n=some a0) :
  dV G o ev σ [d] [] (λr σ'=>r=.undef∧σ'=σ.set d (.map K E (bu k enc (bt l n a)))):=by
 intro cx I β w ρ hw hop
 have h1:=hop x (by simp[h,Op.operands]);rw[hx]at h1
 have h2:=hop y (by simp[h,Op.operands]);rw[hy]at h2;have h2:=cw h2
 have h3:=hop v (by simp[h,Op.operands]);rw[hv]at h3
 have h3:=Rep.closed _ _ hc h3
 simp only[Rep]at h1
 obtain⟨h1,h1m⟩:=h1
 have hdn:β d≠.nilFunc:=λe=>by rw[h1,e]at h1m;simp[gQ]at h1m
 have ho:=hw.aT d _ hd
 simp only[aa,hdn,false_or]at ho
 obtain⟨r,q1,q2,q3,q4,q5,q6⟩:=ho
 have e3:=gG (P:=G.P) q2
 have dK:∀ob:Obj,(setObj r ob).run G.P w=.ok () {w with heap:=w.heap.setIfInBounds r ob}:=λob=>by
  have:=aY q2
  simp[setObj,Sem.run,q2]
 have q0:ρ x=.map (some r):=by rw[h1,q1]
 obtain⟨j,e,m1,m2,m3,m4⟩:=ahy q3 q6 hg
 have hrun:(execOp ρ o).run G.P w=.ok .skip {w with heap:=w.heap.setIfInBounds r (.map ((eT k n z es clock).modify j λe=>{e with val:=ρ v}) (kW k n es clock))}:=by
  simp[execOp,h,Instr.entryStore,q0,h2,e3,asInt,asIntOf,m1,dK]
 rw[hrun]
 refine⟨.undef,_,I,β,⟨rfl,rfl⟩,by simp[Rep,aj],?_,aF.refl I,λ_ _=>rfl,λx hx=>by rw[Sto.ck,if_neg (by simpa using hx)]⟩
 have hbd:blk (β d)=some r:=by rw[q1];rfl
 refine hw.turn (d:=d) (Kept.setObj w r _) q5 (λx hx=>by rw[Sto.ck,if_neg hx]) (λx hx hs e=>hw.bp x d hs (by rw[hd];rfl) hx r e (cq hbd)) (aF.refl I) (λ_ _ _=>rfl)
  (λo v hv=>by rw[q4 o]at hv;cases hv) (q4 none) (λ_ _=>rfl) (.inr rfl) (HLe.refl β) (.inl hbd) λob hob=>?_
 rw[Sto.ck,if_pos rfl,hd]at hob
 injection hob with hob
 subst hob
 simp only[aa]
 exact .inr ⟨r,_,_,q1,by have:=aY q2;simp[Array.getElem?_setIfInBounds,this],m4 a (ρ v) h3,q4,q5,q6.modify _ _ λ_=>rfl⟩
end
end Go.Proofs.Ytmnbolcmepihlaa
