/- Maps from structs aM no zG turn; an entry taken, and stored; calls of many answers where the order is free. No condition but bf aM stand in each. -/
import Derived.Test.YtmnbolcmepihlaaGreatCY
namespace Go.Proofs.YtmnbolcmepihlaaGreat
set_option linter.all false
open Go
section look
variable {P:Program}{I:Imm}{κ α:Type}{K:TypeId}{ek:κ→AV}{q:κ→κ→Bool}{enc:α→AV}
def ixK{κ α:Type}(q:κ→κ→Bool)(l:List (κ×α))(n:κ):Nat:=l.findIdx λp=>q n p.1
theorem ug(hK:acI P K ek q)(n:κ)(w:World):∀(l:List (κ×α)) (es:List MapEntry) (i:Nat) (a:α),cW I (bG ek enc l) es→bZ q l n=some a→
  ∃e,(Instr.findAsking K (valOf (ek n)) es i).run P w=.ok (some (i+ixK q l n,e.val)) w∧aB I (enc a) e.val∧es[ixK q l n]?=some e∧e.key=valOf (ek n)∧
   ∀(b:α) (kk:MapEntry→MapEntry),(∀e,aB I (ek n) e.key→aB I (ek n) (kk e).key)→(∀e,aB I (enc b) (kk e).val)→cW I (bG ek enc (er q l n b)) (es.modify (ixK q l n) kk)
 |[],es,i,a,h,hg=>by simp[bZ]at hg
 |(m,b)::r,es,i,a,h,hg=>by
  simp only[bG,List.map_cons,cW]at h;obtain⟨e,us,rfl,h1,h2,h3⟩:=h;have h1':=aB.plain (hK.plain m) h1;have e1:=hK.eq n m w;cases hm:q n m with
  |true=>
   have:=hK.same n m hm;subst this;simp only[bZ,List.find?,hm,Option.map_some,Option.some.injEq]at hg;subst hg;rw[hm]at e1;have h0:ixK q ((n,b)::r) n=0:=by simp[ixK,List.findIdx_cons,hm]
   rw[h0];refine⟨e,?_,h2,rfl,h1',?_⟩
   ·rw[Instr.findAsking];simp[h1',e1]
   ·intro c kk hk hv;simp only[er,hm,cond_true,bG,List.map_cons,cW,List.modify_zero_cons];exact⟨kk e,us,rfl,hk e h1,hv e,h3⟩
  |false=>
   have hg':bZ q r n=some a:=by simpa [bZ,List.find?,hm]using hg
   obtain⟨e',q1,q2,q3,q4,q5⟩:=ug hK n w r us (i+1) a h3 hg';rw[hm]at e1;have h0:ixK q ((m,b)::r) n=ixK q r n+1:=by simp[ixK,List.findIdx_cons,hm]
   rw[h0];refine⟨e',?_,q2,by simpa using q3,q4,?_⟩
   ·rw[Instr.findAsking];simp only[Sem.run_bind,h1',e1,Result.andThen_ok];simp only[Bool.false_eq_true,if_false];rw[q1];simp[Nat.add_assoc,Nat.add_comm 1]
   ·intro c kk hk hv;simp only[er,hm,cond_false,bG,List.map_cons,cW,List.modify_succ_cons];exact⟨e,_,rfl,h1,h2,q5 c kk hk hv⟩
end look
section ops
variable {G:Gl}{σ:Sto}{o:Oper}{ev:Operand→AV}
theorem yu{I:Imm}{β:Nat→Value}{w:World}{ρ:Operand→Value}{κ α:Type}{T K E:Nat}{ek:κ→AV}{q:κ→κ→Bool}{x y:Operand}{ok:Bool}{n:κ}(l:List (κ×α))(enc:α→AV)(z:α)(h:o.op=.lookup T x y ok)(h1:ua I w (ρ x) (bG ek enc l))(h2:ρ y=valOf (ek n))
  (hT:jE G.P T K E ek q) (hz:∀w,∃v,(zeroValue E).run G.P w=.ok v w∧∀I,aB I (enc z) v) :
  ∃v,(execOp ρ o).run G.P w=.ok (.value v) w∧Rep I β (bif ok then .tup [enc ((bZ q l n).getD z),.bool (bZ q l n).isSome]else enc ((bZ q l n).getD z)) v:=by
 obtain⟨r,es,clock,q0,q2,q3⟩:=h1;have e1:∀w,(underlying T).run G.P w=.ok (.map K E) w:=λw=>by simp[underlying,program,Sem.run,hT.und]
 have e3:=fJ (P:=G.P) q2;have e4:=hT.key.chk (es.isEmpty) n w;have e0:=sL hT.key n w es.toList;cases hg:bZ q l n with
 |none=>
  obtain⟨p1,_⟩:=oU hT.key n w l es.toList 0 q3 hg;obtain⟨v,z1,z2⟩:=hz w;have e5:(Instr.findKey K (valOf (ek n)) es.toList).run G.P w=.ok none w:=by rw[e0,p1]
  cases ok with
  |true=>
   refine⟨.tuple #[v,.bool false],by simp[execOp,h,Instr.lookup,q0,h2,e1,e3,e4,e5,z1],?_⟩;simp only[cond_true,Rep,aW];exact⟨_,rfl,v,[.bool false],rfl,aB.rep β _ _ (z2 I),.bool false,[],rfl,by simp[aB],rfl⟩
  |false=>
   refine⟨v,by simp[execOp,h,Instr.lookup,q0,h2,e1,e3,e4,e5,z1],?_⟩;simp only[cond_false];exact aB.rep β _ _ (z2 I)
 |some a=>
  obtain⟨j,v,p1,p2,_⟩:=tc hT.key n w l es.toList 0 a q3 hg;have e5:(Instr.findKey K (valOf (ek n)) es.toList).run G.P w=.ok (some (0+j,v)) w:=by rw[e0,p1]
  cases ok with
  |true=>
   refine⟨.tuple #[v,.bool true],by simp[execOp,h,Instr.lookup,q0,h2,e1,e3,e4,e5],?_⟩;simp only[cond_true,Rep,aW];exact⟨_,rfl,v,[.bool true],rfl,aB.rep β _ _ p2,.bool true,[],rfl,by simp[aB],rfl⟩
  |false=>
   refine⟨v,by simp[execOp,h,Instr.lookup,q0,h2,e1,e3,e4,e5],?_⟩;simp only[cond_false];exact aB.rep β _ _ p2
theorem Y.ah7{κ α:Type}{T K E:Nat}{ek:κ→AV}{q:κ→κ→Bool}{x y:Operand}{ok:Bool}{n:κ}(l:List (κ×α))(enc:α→AV)(z:α)(h:o.op=.lookup T x y ok)(hx:ev x=.mpf (bG ek enc l))(hy:ev y=ek n)(hT:jE G.P T K E ek q)(hz:∀w,∃v,(zeroValue E).run G.P w=.ok v w∧∀I,aB I (enc z) v):
  Yields G o ev σ [] [] (bif ok then .tup [enc ((bZ q l n).getD z),.bool (bZ q l n).isSome]else enc ((bZ q l n).getD z)):=
 .pure λσ' cx I β w ρ hR hw hop=>by
  have h1:=hop x (by simp[h,Op.operands]);rw[hx]at h1
  have h2:=hop y (by simp[h,Op.operands]);rw[hy]at h2;have h2:=iO _ _ (hT.key.plain n) h2
  exact yu l enc z h (acm hw h1) h2 hT hz
theorem Y.ah8{κ α:Type}{T K E K' E' d clock:Nat}{es:Array MapEntry}{ek:κ→AV}{q:κ→κ→Bool}{x y:Operand}{ok:Bool}{n:κ}(l:List (κ×α))(enc:α→AV)(z:α)(h:o.op=.lookup T x y ok)(hx:ev x=.bX d)(hy:ev y=ek n)(hd:σ.get d=some (.dI es clock K' E' (bG ek enc l)))(hT:jE G.P T K E ek q)(hz:∀w,∃v,(zeroValue E).run G.P w=.ok v w∧∀I,aB I (enc z) v):
  Yields G o ev σ [] [d] (bif ok then .tup [enc ((bZ q l n).getD z),.bool (bZ q l n).isSome]else enc ((bZ q l n).getD z)):=
 .pure λσ' cx I β w ρ hR hw hop=>by
  have h1:=hop x (by simp[h,Op.operands]);rw[hx]at h1
  have h2:=hop y (by simp[h,Op.operands]);rw[hy]at h2;have h2:=iO _ _ (hT.key.plain n) h2
  exact yu l enc z h (ack hw (by rw[hR d (by simp)];exact hd) h1) h2 hT hz
def stK{κ α:Type}(q:κ→κ→Bool)(l:List (κ×α))(n:κ)(es:Array MapEntry):Int:=((es[ixK q l n]?).map λe=>(e.born:Int)).getD 0
theorem yw{cx:Cx}{I:Imm}{β:Nat→Value}{w:World}(hw:aX G cx I β σ w){d clock:Nat}{es:Array MapEntry}{K E:TypeId}{aL:List (AV×AV)}(hd:σ.get d=some (.dI es clock K E aL)){v:Value}(hv:Rep I β (.bX d) v):
  ∃r,v=.map (some r)∧β d=.map (some r)∧w.heap[r]?=some (.map es clock)∧cW I aL es.toList∧(∀o,I r o=none)∧Place cx r∧gv es clock:=by
 simp only[Rep]at hv;obtain⟨rfl,hv⟩:=hv;have:=hw.bB d _ hd;simp only[aj]at this;rcases this with q|⟨r,q1,q2,q3,q4,q5,q6⟩
 ·rw[q]at hv;simp[jS]at hv
 ·exact⟨r,q1,q1,q2,q3,q4,q5,q6⟩
theorem D.agt{κ α:Type}{T K E d clock:Nat}{es:Array MapEntry}{ek:κ→AV}{q:κ→κ→Bool}{x y:Operand}{n:κ}(l:List (κ×α))(enc:α→AV)(a:α)(h:o.op=.mapEntry T x y)(hx:ev x=.bX d)(hy:ev y=ek n){K' E':Nat}(hd:σ.get d=some (.dI es clock K' E' (bG ek enc l)))
  (hT:jE G.P T K E ek q) (hg:bZ q l n=some a):dU G o ev σ [] [] (λr σ'=>r=.tup [enc a,.int .i64 (stK q l n es)]∧σ'=σ):=by
 intro cx I β w ρ hw hop;have h1:=hop x (by simp[h,Op.operands]);rw[hx]at h1
 have h2:=hop y (by simp[h,Op.operands]);rw[hy]at h2
 have h2:=iO _ _ (hT.key.plain n) h2;obtain⟨r,q0,q1,q2,q3,q4,q5,q6⟩:=yw hw hd h1;have e1:∀w,(underlying T).run G.P w=.ok (.map K E) w:=λw=>by simp[underlying,program,Sem.run,hT.und]
 have e3:=fJ (P:=G.P) q2;have e4:=hT.key.chk false n w;have e0:=sL hT.key n w es.toList;have dN:(setObj r (.map es clock)).run G.P w=.ok () w:=by
  have hlt:=bF q2;have:w.heap.setIfInBounds r (.map es clock)=w.heap:=by
   apply Array.ext_getElem?;intro i;by_cases hi:r=i
   ·subst hi;rw[Array.getElem?_setIfInBounds_self_of_lt hlt,q2]
   ·rw[Array.getElem?_setIfInBounds_ne hi]
  simp[setObj,Sem.run,q2,this]
 obtain⟨e',p1,p2,p3,p4,p5⟩:=ug hT.key n w l es.toList 0 a q3 hg;have e5:(Instr.findKey K (valOf (ek n)) es.toList).run G.P w=.ok (some (0+ixK q l n,e'.val)) w:=by rw[e0,p1]
 have e6:es[ixK q l n]?=some e':=by simpa using p3
 have e7:(Instr.keyThatStays (valOf (ek n)) (valOf (ek n))).run G.P w=.ok (valOf (ek n)) w:=by simp[Instr.keyThatStays,hT.key.bits n]
 have hst:stK q l n es=(e'.born:Int):=by unfold stK;rw[e6];rfl
 have hmod:es.modify (ixK q l n) (λe=>{e with key:=valOf (ek n)})=es:=by
  apply Array.ext';rw[Array.toList_modify];apply List.ext_getElem?;intro i;rw[List.getElem?_modify];by_cases hi:ixK q l n=i
  ·subst hi;have e6':es.toList[ixK q l n]?=some e':=by simpa using e6
   rw[e6'];simp only[Option.map_eq_map,Option.map_some,if_true];congr 1;cases e';simp only at p4;rw[p4]
  ·simp[hi]
 have hrun:(execOp ρ o).run G.P w=.ok (.value (.tuple #[e'.val,.int .i64 (stK q l n es)])) w:=by
  rw[hst];simp[execOp,h,Instr.mapEntry,q0,h2,e1,e3,e4,e5,e6,p4,e7,hmod,dN,goInt]
 rw[hrun];refine⟨_,_,I,β,⟨rfl,rfl⟩,?_,hw,aQ.refl I,λ_ _=>rfl,λx hx=>rfl⟩;simp only[Rep,aW];exact⟨_,rfl,_,_,rfl,aB.rep β _ _ p2,_,_,rfl,by simp[aB],rfl⟩
theorem abS{l:List MapEntry}(hn:(l.map (·.born)).Nodup){j:Nat}{e0:MapEntry}(h:l[j]?=some e0):l.findIdx? (λe=>((e.born:Nat):Int)==((e0.born:Nat):Int))=some j:=by
 induction l generalizing j with
 |nil=>simp at h
 |cons a r ih=>
  simp only[List.map_cons,List.nodup_cons]at hn;cases j with
  |zero=>
   simp only[List.getElem?_cons_zero,Option.some.injEq]at h;subst h;simp[List.findIdx?_cons]
  |succ j=>
   simp only[List.getElem?_cons_succ]at h;have hne:a.born≠e0.born:=λe1=>hn.1 (List.mem_map.2 ⟨e0,List.mem_of_getElem? h,e1.symm⟩);have hb:(((a.born:Nat):Int)==((e0.born:Nat):Int))=false:=by
    simp only[beq_eq_false_iff_ne,ne_eq,Int.natCast_inj];exact hne
   rw[List.findIdx?_cons,hb];simp[ih hn.2 h]
theorem D.adN{κ α:Type}{T K E T0 d clock:Nat}{es:Array MapEntry}{ek:κ→AV}{q:κ→κ→Bool}{x s y:Operand}{n:κ}(l:List (κ×α))(enc:α→AV)(v:α)(h:o.op=.entryStore T0 x s y)(hx:ev x=.bX d)(hs:ev s=.int .i64 (stK q l n es))(hy:ev y=enc v)(hc:(enc v).closed=true){K' E':Nat}(hd:σ.get d=some (.dI es clock K' E' (bG ek enc l)))
  (hT:jE G.P T K E ek q) (hg:(bZ q l n).isSome=true):dU G o ev σ [d] [] (λr σ'=>r=.undef∧σ'=σ.set d (.map K' E' (bG ek enc (er q l n v)))):=by
 intro cx I β w ρ hw hop;have h1:=hop x (by simp[h,Op.operands]);rw[hx]at h1
 have h2:=hop s (by simp[h,Op.operands]);rw[hs]at h2
 have h2:=de h2;have h3:=hop y (by simp[h,Op.operands]);rw[hy]at h3
 have h3:=Rep.closed _ _ hc h3;obtain⟨r,q0,q1,q2,q3,q4,q5,q6⟩:=yw hw hd h1;obtain⟨a,hg⟩:=Option.isSome_iff_exists.1 hg;obtain⟨e',p1,p2,p3,p4,p5⟩:=ug hT.key n w l es.toList 0 a q3 hg;have e6:es[ixK q l n]?=some e':=by simpa using p3
 have e3:=fJ (P:=G.P) q2;have hst:stK q l n es=(e'.born:Int):=by unfold stK;rw[e6];rfl
 have hidx:es.findIdx? (λe=>((e.born:Nat):Int)==((e'.born:Nat):Int))=some (ixK q l n):=by
  have:es.findIdx? (λe=>((e.born:Nat):Int)==((e'.born:Nat):Int))=es.toList.findIdx? (λe=>((e.born:Nat):Int)==((e'.born:Nat):Int)):=by cases es;simp
  rw[this];exact abS q6.1 p3
 have dN:∀ob:Obj,(setObj r ob).run G.P w=.ok () {w with heap:=w.heap.setIfInBounds r ob}:=λob=>by
  have:=bF q2;simp[setObj,Sem.run,q2]
 have hrun:(execOp ρ o).run G.P w=.ok .skip {w with heap:=w.heap.setIfInBounds r (.map (es.modify (ixK q l n) λe=>{e with val:=ρ y}) clock)}:=by
  simp[execOp,h,Instr.entryStore,q0,h2,hst,e3,asInt,asIntOf,hidx,dN]
 rw[hrun];refine⟨.undef,_,I,β,⟨rfl,rfl⟩,by simp[Rep,aB],?_,aQ.refl I,λ_ _=>rfl,λx hx=>by rw[Sto.cB,if_neg (by simpa using hx)]⟩;have hbd:blk (β d)=some r:=by rw[q1];rfl
 refine hw.turn (d:=d) (Kept.setObj w r _) q5 (λx hx=>by rw[Sto.cB,if_neg hx]) (λx hx hs e=>hw.bQ x d hs (by rw[hd];rfl) hx r e (cR hbd)) (aQ.refl I) (λ_ _ _=>rfl)
  (λo v hv=>by rw[q4 o]at hv;cases hv) (q4 none) (λ_ _=>rfl) (.inr rfl) (HLe.refl β) (.inl hbd) λob hob=>?_
 rw[Sto.cB,if_pos rfl,hd]at hob;injection hob with hob
 subst hob;simp only[aj];exact .inr ⟨r,es.modify (ixK q l n) (λe=>{e with val:=ρ y}),clock,q1,by have:=bF q2;simp[Array.getElem?_setIfInBounds,this],by simpa using p5 v (λe=>{e with val:=ρ y}) (λe h=>h) (λe=>h3),q4,q5,q6.modify _ _ λ_=>rfl⟩
end ops
section hints
variable {P:Program}
def ae0{κ α:Type}(T0:Nat)(q:κ→κ→Bool)(l:List (κ×α))(n:κ)(enc:α→AV)(z:α)(op:Op)(env:Env)(σ:Sto):Option (Stp×Obs):=match op with
 |.lookup T x y ok=>(match env.evo x with
  |some (.mpf aL)=>(match env.evo y with
   |some a=>bif Nat.beq T T0 then some (.y [] (bif ok then .tup [enc ((bZ q l n).getD z),.bool (bZ q l n).isSome]else enc ((bZ q l n).getD z)),([.mpf aL,a],[]))else none
   |_=>none)
  |some (.bX d)=>(match env.evo y with
   |some a=>(match σ.get d with
    |some (.dI _ _ _ _ aL)=>bif Nat.beq T T0 then some (.y [d] (bif ok then .tup [enc ((bZ q l n).getD z),.bool (bZ q l n).isSome]else enc ((bZ q l n).getD z)),([.mpf aL,a],[]))else none
    |_=>none)
   |_=>none)
  |_=>none)
 |_=>none
theorem alG{κ α:Type}{T0 K0 E0:Nat}{ek:κ→AV}{q:κ→κ→Bool}{l:List (κ×α)}{n:κ}{enc:α→AV}{z:α}(hT:jE P T0 K0 E0 ek q)(hz:∀w,∃v,(zeroValue E0).run P w=.ok v w∧∀I,aB I (enc z) v){o:Oper}{N:Nat}{ids:List Nat}{env:Env}{σ:Sto}{s:Stp}{ob:Obs}
  (h:ae0 T0 q l n enc z o.op env σ=some (s,ob)) (he:ob=([.mpf (bG ek enc l),ek n],[])):cz ⟨P,N,ids⟩ o env σ s:=by
 cases ho:o.op<;>rw[ho]at h
 case lookup T x y ok=>
  simp only[ae0]at h;split at h
  ·rename_i aL hx;split at h
   ·rename_i a hy;cases hb:Nat.beq T T0 with
    |false=>rw[hb]at h;cases h
    |true=>
     rw[hb]at h;have:=Nat.eq_of_beq_eq_true hb;subst this;cases h;simp only[Prod.mk.injEq,List.cons.injEq,AV.mpf.injEq,and_true]at he;obtain⟨rfl,rfl⟩:=he;exact Y.ah7 l enc z ho (Env.aG hx) (Env.aG hy) hT hz
   ·cases h
  ·rename_i d hx;split at h
   ·rename_i a hy;split at h
    ·rename_i es clock K E aL hd;cases hb:Nat.beq T T0 with
     |false=>rw[hb]at h;cases h
     |true=>
      rw[hb]at h;have:=Nat.eq_of_beq_eq_true hb;subst this;cases h;simp only[Prod.mk.injEq,List.cons.injEq,AV.mpf.injEq,and_true]at he;obtain⟨rfl,rfl⟩:=he;exact Y.ah8 l enc z ho (Env.aG hx) (Env.aG hy) hd hT hz
    ·cases h
   ·cases h
  ·cases h
 all_goals (simp only[ae0]at h;cases h)
def ah9{κ α:Type}{T0 K0 E0:Nat}{ek:κ→AV}{q:κ→κ→Bool}(l:List (κ×α))(n:κ)(enc:α→AV)(z:α)(hT:jE P T0 K0 E0 ek q)(hz:∀w,∃v,(zeroValue E0).run P w=.ok v w∧∀I,aB I (enc z) v):Hint P:=
 .gs false ([.mpf (bG ek enc l),ek n],[]) (λ_=>ae0 T0 q l n enc z) λ_ _ _ _ _ _ _ h he=>alG hT hz h he
def ae1{κ α:Type}(T0:Nat)(q:κ→κ→Bool)(l:List (κ×α))(n:κ)(enc:α→AV)(a:α)(op:Op)(env:Env)(σ:Sto):Option (Stp×Obs):=match op with
 |.mapEntry T x y=>(match env.evo x with
  |some (.bX d)=>(match env.evo y with
   |some k=>(match σ.get d with
    |some (.dI es _ _ _ aL)=>bif Nat.beq T T0 then some (.e [] [] (.tup [enc a,.int .i64 (stK q l n es)]) σ,([.mpf aL,k],[]))else none
    |_=>none)
   |_=>none)
  |_=>none)
 |_=>none
theorem alH{κ α:Type}{T0 K0 E0:Nat}{ek:κ→AV}{q:κ→κ→Bool}{l:List (κ×α)}{n:κ}{enc:α→AV}{a:α}(hT:jE P T0 K0 E0 ek q)(hg:bZ q l n=some a){o:Oper}{N:Nat}{ids:List Nat}{env:Env}{σ:Sto}{s:Stp}{ob:Obs}
  (h:ae1 T0 q l n enc a o.op env σ=some (s,ob)) (he:ob=([.mpf (bG ek enc l),ek n],[])):cz ⟨P,N,ids⟩ o env σ s:=by
 cases ho:o.op<;>rw[ho]at h
 case mapEntry T x y=>
  simp only[ae1]at h;split at h
  ·rename_i d hx;split at h
   ·rename_i k hy;split at h
    ·rename_i es clock K E aL hd;cases hb:Nat.beq T T0 with
     |false=>rw[hb]at h;cases h
     |true=>
      rw[hb]at h;have:=Nat.eq_of_beq_eq_true hb;subst this;cases h;simp only[Prod.mk.injEq,List.cons.injEq,AV.mpf.injEq,and_true]at he;obtain⟨rfl,rfl⟩:=he;exact⟨D.agt l enc a ho (Env.aG hx) (Env.aG hy) hd hT hg,rfl⟩
    ·cases h
   ·cases h
  ·cases h
 all_goals (simp only[ae1]at h;cases h)
def hmeK{κ α:Type}{T0 K0 E0:Nat}{ek:κ→AV}{q:κ→κ→Bool}(l:List (κ×α))(n:κ)(enc:α→AV)(a:α)(hT:jE P T0 K0 E0 ek q)(hg:bZ q l n=some a):Hint P:=
 .gs true ([.mpf (bG ek enc l),ek n],[]) (λ_=>ae1 T0 q l n enc a) λ_ _ _ _ _ _ _ h he=>alH hT hg h he
def ae2{κ α:Type}(ek:κ→AV)(q:κ→κ→Bool)(l:List (κ×α))(n:κ)(enc:α→AV)(v:α)(op:Op)(env:Env)(σ:Sto):Option (Stp×Obs):=match op with
 |.entryStore _ x s y=>(match env.evo x with
  |some (.bX d)=>(match env.evo s with
   |some a=>(match env.evo y with
    |some b=>(match σ.get d with
     |some (.dI es clock K E aL)=>some (.e [d] [] .undef (σ.set d (.map K E (bG ek enc (er q l n v)))),([.mpf aL,a,b],[(0,.dI es clock 0 0 [])]))
     |_=>none)
    |_=>none)
   |_=>none)
  |_=>none)
 |_=>none
theorem alI{κ α:Type}{T0 K0 E0 acQ:Nat}{es0:Array MapEntry}{ek:κ→AV}{q:κ→κ→Bool}{l:List (κ×α)}{n:κ}{enc:α→AV}{v:α}(hT:jE P T0 K0 E0 ek q)(hc:(enc v).closed=true)(hg:(bZ q l n).isSome=true){o:Oper}{N:Nat}{ids:List Nat}{env:Env}{σ:Sto}{s:Stp}{ob:Obs}
  (h:ae2 ek q l n enc v o.op env σ=some (s,ob)) (he:ob=([.mpf (bG ek enc l),.int .i64 (stK q l n es0),enc v],[(0,.dI es0 acQ 0 0 [])])):cz ⟨P,N,ids⟩ o env σ s:=by
 cases ho:o.op<;>rw[ho]at h
 case entryStore T x s y=>
  simp only[ae2]at h;split at h
  ·rename_i d hx;split at h
   ·rename_i a hs;split at h
    ·rename_i b hy;split at h
     ·rename_i es clock K E aL hd;cases h;simp only[Prod.mk.injEq,List.cons.injEq,AV.mpf.injEq,br.dI.injEq,and_true,true_and]at he;obtain⟨⟨rfl,rfl,rfl⟩,rfl,rfl⟩:=he;exact⟨D.adN l enc v ho (Env.aG hx) (Env.aG hs) (Env.aG hy) hc hd hT hg,rfl⟩
     ·cases h
    ·cases h
   ·cases h
  ·cases h
 all_goals (simp only[ae2]at h;cases h)
def hesK{κ α:Type}{T0 K0 E0:Nat}{ek:κ→AV}{q:κ→κ→Bool}(es0:Array MapEntry)(acQ:Nat)(l:List (κ×α))(n:κ)(enc:α→AV)(v:α)(hT:jE P T0 K0 E0 ek q)(hc:(enc v).closed=true)(hg:(bZ q l n).isSome=true):Hint P:=
 .gs true ([.mpf (bG ek enc l),.int .i64 (stK q l n es0),enc v],[(0,.dI es0 acQ 0 0 [])]) (λ_=>ae2 ek q l n enc v) λ_ _ _ _ _ _ _ h he=>alI hT hc hg h he
theorem aoG{κ α:Type}{q:κ→κ→Bool}{l:List (κ×α)}{n:κ}{z:α}(h:(bZ q l n).isSome=true):bZ q l n=some ((bZ q l n).getD z):=by
 cases hg:bZ q l n with
 |none=>rw[hg]at h;cases h
 |some a=>rfl
end hints
theorem gK.mono{P:Program}{Φ Φ':Value→World→Prop}{r:Result Next}(h:gK P Φ r)(hp:∀v w,Φ v w→Φ' v w):gK P Φ' r:=by
 cases r with
 |ok n w=>
  cases n with
  |value v=>exact hp _ _ h
  |skip=>exact hp _ _ h
  |enter f args=>exact Calls.mono h λe w'' ⟨v,h1,h2⟩=>⟨v,h1,hp _ _ h2⟩
  |_=>exact h
 |_=>exact h
variable {news:List Nat}
theorem dU.ach{G:Gl}{o:Oper}{ev:Operand→AV}{σ σ2:Sto}{M:List Nat}{r r':AV}(h:dU G o ev σ M news (λa σ'=>a=r∧σ'=σ2++σ))(hs:eB [] (σ2.freeze σ2.ids) r=some r')(hn:σ2.ids.all (λd=>(σ.get d).isNone)=true):
  dU G o ev σ M news (λa σ'=>a=r'∧σ'=σ):=by
 intro cx I β w ρ hw hop;refine gK.mono (h cx I β w ρ hw hop) ?_;rintro v w' ⟨av,σ',I',β',⟨rfl,rfl⟩,q1,q2,q3,q4,q5⟩;obtain⟨I1,hle,hw1⟩:=q2.qI σ2.ids
 have hsub:∀d o,σ.get d=some o→((σ2++σ).freeze σ2.ids).get d=some o:=λd o hd=>by
  have hd2:d∉σ2.ids:=λhm=>by
   have:=List.all_eq_true.1 hn d hm;rw[hd]at this;cases this
  rw[Sto.dV,Sto.ji];have:σ2.get d=none:=by
   cases h:σ2.get d with
   |none=>rfl
   |some x=>
    obtain⟨p,p1,p2,_⟩:=jo σ2 d x h;exact absurd (by rw[←p2];exact List.mem_map.2 ⟨p,p1,rfl⟩) hd2
  rw[this];simp[hd,hd2]
 have ary:∀d o,(σ2.freeze σ2.ids).get d=some o→((σ2++σ).freeze σ2.ids).get d=some o:=λd o hd=>by
  rw[Sto.dV]at hd ⊢;rw[Sto.ji];cases h:σ2.get d with
  |none=>rw[h]at hd;simp at hd
  |some x=>rw[h]at hd;exact hd
 refine⟨r',σ,I1,β',⟨rfl,rfl⟩,(iC hs).rep (hw1.sub ary) _ (ou hle (HLe.refl _) _ _ q1),hw1.sub hsub,λb o v hv=>hle _ _ _ (q3 _ _ _ hv),q4,λ_ _=>rfl⟩
def lsE(ids:List Nat)(env:Env)(σ:Sto)(ds news:List Nat)(r r':AV)(σ2:Sto)(op:Op):Option (Stp×Obs):=match op with
 |.call c=>match pL env c with
  |none=>none
  |some (f,as1)=>match σ.at ds with
   |none=>none
   |some σs=>match nL (uU 9 σs) as1 with
    |none=>none
    |some avs=>match eB [] (σ2.freeze σ2.ids) r with
     |none=>none
     |some x=>bif news.all (λd=>!ids.contains d&&(σ.get d).isNone)&&σ.clean news.contains&&r.oC&&!r.refs (λd=>!news.contains d)&&σ2.clean (λd=>!news.contains d)&&σ2.ids.all (λd=>(σ.get d).isNone)then some (.e news news r' σ,(.fn f []::x::avs,[]))else none
 |_=>none
variable {N:Nat}{ds:List Nat}{env:Env}{f:FuncId}{ob:Obs}
theorem aoH{P:Program}{ids:List Nat}{σ:Sto}{o:Oper}{σ2:Sto}{avs:List AV}{r r':AV}(pf:b9 P f [] avs (λa σ'=>a=r∧σ'=σ2))(hc:aO P f)(fl:rO σ2){s:Stp}(h:lsE ids env σ ds news r r' σ2 o.op=some (s,ob))(he:ob=(.fn f []::r'::avs,[])):cz ⟨P,N,ids⟩ o env σ s:=by
 cases ho:o.op<;>rw[ho]at h
 case call c=>
  simp only[lsE]at h;split at h
  ·cases h
  ·rename_i f' as1 ha;obtain⟨fo,args,k,cap,ps,rfl,hf,hp,rfl⟩:=oD ha;split at h
   ·cases h
   ·rename_i σa hat;split at h
    ·cases h
    ·rename_i wO hs;split at h
     ·cases h
     ·rename_i x hx;generalize hb:(news.all _&&_&&_&&_&&_&&_)=bb at h;cases bb with
      |false=>cases h
      |true=>
       simp only[Bool.and_eq_true,Bool.not_eq_true']at hb;obtain⟨⟨⟨⟨⟨b1,b2⟩,b3⟩,b4⟩,b5⟩,b6⟩:=hb;cases h;simp only[Prod.mk.injEq,List.cons.injEq,AV.fn.injEq,and_true]at he;obtain⟨rfl,rfl,rfl⟩:=he;exact⟨(D.ahh (G:=⟨P,N,ids⟩) (σs:=σa) 9 news ho hf hc.h pf hp hs (Sto.iQ hat).1 b1 b2 b3 b4 b5 fl).ach hx b6,by rw[List.all_eq_true]at b1 ⊢;exact λd hd=>((Bool.and_eq_true _ _).mp (b1 d hd)).1⟩
 all_goals (simp only[lsE]at h;cases h)
def hls{P:Program}(ds news:List Nat){f:FuncId}{avs:List AV}{r:AV}(r':AV){σ2:Sto}(pf:b9 P f [] avs (λa σ'=>a=r∧σ'=σ2))(hc:aO P f)(fl:rO σ2):Hint P:=
 .gs true (.fn f []::r'::avs,[]) (λids op env σ=>lsE ids env σ ds news r r' σ2 op) λ_ _ _ _ _ _ _ h he=>aoH pf hc fl h he
def rmE(env:Env)(ds:List Nat)(σ:Sto)(r:AV):Op→Option (Stp×Obs)
 |.call c=>match pL env c with
  |none=>none
  |some (f,as1)=>match σ.at (ds++uX as1)with
   |none=>none
   |some σa=>match uV σa 0 as1 with
    |none=>none
    |some avs=>bif r.closed then some (.y σa.ids r,(.fn f []::avs,[]))else none
 |_=>none
theorem aoI{P:Program}{ids:List Nat}{σ:Sto}{o:Oper}{avs:List AV}{r:AV}(pf:RO P f [] avs r)(hc:aO P f){s:Stp}(h:rmE env ds σ r o.op=some (s,ob))(he:ob=(.fn f []::avs,[])):cz ⟨P,N,ids⟩ o env σ s:=by
 cases ho:o.op<;>rw[ho]at h
 case call c=>
  simp only[rmE]at h;split at h
  ·cases h
  ·rename_i f' as1 ha;obtain⟨fo,args,k,cap,ps,rfl,hf,hp,rfl⟩:=oD ha;split at h
   ·cases h
   ·rename_i σa hat;split at h
    ·cases h
    ·rename_i wO hs;generalize hb:r.closed=bb at h;cases bb with
     |false=>cases h
     |true=>
      cases h;simp only[Prod.mk.injEq,List.cons.injEq,AV.fn.injEq,and_true]at he;obtain⟨rfl,rfl⟩:=he;exact Z.call (G:=⟨P,N,ids⟩) (σs:=σa) (σc:=[]) ho hf hc.h pf hp (uW hs) (Sto.iQ hat).1 trivial hb rfl
 all_goals (simp only[rmE]at h;cases h)
def hrm{P:Program}(ds:List Nat){f:FuncId}{avs:List AV}{r:AV}(pf:RO P f [] avs r)(hc:aO P f):Hint P:=
 .gs false (.fn f []::avs,[]) (λ_ op env σ=>rmE env ds σ r op) λ_ _ _ _ _ _ _ h he=>aoI pf hc h he
section many
variable {P:Program}
theorem Cert.app{G:Gl}{ops:Array Oper}{s:Sch}{K:Env→Sto→Prop}{l2:List Nat}:∀{l1:List Nat} {log:List (Nat×List Nat)} {env:Env} {σ:Sto},Cert G ops s log l1 env σ (λe σ'=>∀aeV,Cert G ops s aeV l2 e σ' K)→Cert G ops s log (l1++l2) env σ K
 |[],log,_,_,h=>h log
 |i::l,log,env,σ,h=>by
  obtain⟨o,ho,h⟩:=h;refine⟨o,ho,?_⟩;rcases h with⟨h1,h2,h3⟩|⟨h1,h2,mat,R,av,σ2,h3,h4,h5,h6,h7⟩|⟨h1,h2,M,news,Φ,h3,h4,h5,h6,h7⟩|⟨h1,h2,h3⟩
  ·exact .inl ⟨h1,h2,Cert.app h3⟩
  ·exact .inr (.inl ⟨h1,h2,mat,R,av,σ2,h3,h4,h5,h6,Cert.app h7⟩)
  ·exact .inr (.inr (.inl ⟨h1,h2,M,news,Φ,h3,h4,h5,h6,λav σ' hq=>Cert.app (h7 av σ' hq)⟩))
  ·exact .inr (.inr (.inr ⟨h1,h2,Cert.app h3⟩))
def acR(tb:Tb)(ids:List Nat)(ops:Array Oper)(s:Sch):List (Nat×Hint P)→Env→Sto→Option (Env×Sto×List Obs)
 |[],env,σ=>some (env,σ,[])
 |(i,h)::r,env,σ=>match ops[i]? with
  |none=>none
  |some o=>match xP ops o env with
   |none=>none
   |some false=>none
   |some true=>match uY tb ids o env σ h with
    |none=>none
    |some (.y R av,ob)=>bif !isP s i||abY σ R then(match acR tb ids ops s r (env.put o.dst av) σ with
     |none=>none
     |some (e,s',obs)=>some (e,s',ob::obs))else none
    |some (.v _ _ _,_)=>none
    |some (.e M news av σ',ob)=>bif isE s i&&M.isEmpty&&env.clean news.contains&&news.all (λd=>(σ.get d).isNone)then(match acR tb ids ops s r (env.put o.dst av) σ' with
     |none=>none
     |some (e,s',obs)=>some (e,s',ob::obs))else none
theorem uK(s:Sch)(i:Nat):∀log:List (Nat×List Nat),nJ s i [] log=true
 |[]=>rfl
 |(j,R)::r=>by simp[nJ,uK s i r]
theorem xT{tb:Tb}{N:Nat}{ids:List Nat}{ops:Array Oper}{s:Sch}{K:Env→Sto→Prop}(W:Wld P tb):∀{pl:List (Nat×Hint P)} {log:List (Nat×List Nat)} {env rj:Env} {σ σ1:Sto} {obs:List Obs},
  acR tb ids ops s pl env σ=some (rj,σ1,obs)→obs=pl.map (λp=>p.2.exp)→K rj σ1→Cert ⟨P,N,ids⟩ ops s log (pl.map (·.1)) env σ K
 |[],log,env,rj,σ,σ1,obs,h,_,k=>by cases h;exact C.nil k
 |(i,hi)::r,log,env,rj,σ,σ1,obs,h,he,k=>by
  simp only[acR]at h;split at h
  ·cases h
  ·rename_i o ho;split at h
   ·cases h
   ·cases h
   ·rename_i hw;split at h
    ·cases h
    ·rename_i R av ob hs;generalize hb:(!isP s i||_)=bb at h;cases bb with
     |false=>cases h
     |true=>
      simp only[cond_true]at h;split at h
      ·cases h
      ·rename_i e s' acz hr;cases h;simp only[List.map_cons,List.cons.injEq]at he ⊢;have hY:=qk (N:=N) W hs he.1;cases hp:isP s i with
       |true=>
        rw[hp]at hb;exact C.y ho (qm hw) hp (by simpa using hb) hY (xT W hr he.2 k)
       |false=>exact C.ey ho (qm hw) (acy hp) hY (xT W hr he.2 k)
    ·cases h
    ·rename_i M news av σ' ob hs;generalize hb:(isE s i&&_&&_&&_)=bb at h;cases bb with
     |false=>cases h
     |true=>
      simp only[cond_true]at h;simp only[Bool.and_eq_true]at hb;split at h
      ·cases h
      ·rename_i e s' acz hr;cases h;simp only[List.map_cons,List.cons.injEq]at he ⊢;have hY:=qk (N:=N) W hs he.1;have hM:M=[]:=by simpa using hb.1.1.2
       subst hM;refine C.e ho (qm hw) hb.1.1.1 hY.1 (by rw[uK];simp) hb.1.2 ?_ (λa s2 hh=>?_)
       ·rw[List.all_eq_true];intro d hd;rw[Bool.and_eq_true];exact⟨List.all_eq_true.1 hY.2 d hd,List.all_eq_true.1 hb.2 d hd⟩
       ·obtain⟨rfl,rfl⟩:=hh;exact xT W hr he.2 k
def aia(tb:Tb)(ids:List Nat)(ops:Array Oper)(s:Sch)(l1:List Nat)(ms:List Mv)(hs:List (Nat×Hint P))(env:Env)(σ:Sto):Option (Env×Sto×List Obs):=match uZ ids ms env σ with
 |none=>none
 |some (e0,s0)=>qn tb ids ops s (l1.map λi=>(i,hintOf hs i)) [] e0 s0
def aoJ(tb:Tb)(ids:List Nat)(ops:Array Oper)(s:Sch)(l1:List Nat)(n:Nat)(ms:List Mv)(hs:List (Nat×Hint P))(env:Env)(σ:Sto):Option (FuncId×List AV×List Obs):=match aia tb ids ops s l1 ms hs env σ with
 |none=>none
 |some (e1,s1,obs)=>match ops[n]? with
  |none=>none
  |some o=>match o.guard with
   |some _=>none
   |none=>match o.op with
    |.call c=>(match pL e1 c with
     |none=>none
     |some (f,ps)=>match mF [] s1 ps with
      |none=>none
      |some avs=>some (f,avs,obs))
    |_=>none
def aoK(tb:Tb)(ids:List Nat)(ops:Array Oper)(s:Sch)(l1:List Nat)(n:Nat)(l2:List Nat)(ms:List Mv)(hs hs2:List (Nat×Hint P))(env:Env)(σ:Sto)(av:AV)(ks ds:List Nat):Option (Env×Sto×List Obs):=match aia tb ids ops s l1 ms hs env σ with
 |none=>none
 |some (e1,s1,_)=>match ops[n]? with
  |none=>none
  |some o=>match acR tb ids ops s (l2.map λi=>(i,hintOf hs2 i)) (e1.put o.dst av) s1 with
   |none=>none
   |some (e2,s2,obs)=>match u0 [] ds s2 e2 ks with
    |none=>none
    |some e3=>match s2.at ds with
     |none=>none
     |some s3=>some (e3,s3,obs)
theorem A.RYD{N:Nat}{ids:List Nat}{tb:Tb}{env:Env}{σ:Sto}{Q:Exit→Env→Sto→Prop}{y:Code}(W:Wld P tb){id:Nat}{ops:Array Oper}(es l1:List Nat)(n:Nat)(l2:List Nat)(ms:List Mv)(hs:List (Nat×Hint P)){f:FuncId}{avs:List AV}{Post:AV→Sto→Prop}(pf:b9 P f [] avs Post)(hc:aO P f)
  (hd:zq N ops ⟨true,acA ops.toList,es⟩ (l1++n::l2)=true) (hes:es.contains n=true) (h:aoJ tb ids ops ⟨true,acA ops.toList,es⟩ l1 n ms hs env σ=some (f,avs,l1.map λi=>(hintOf hs i).exp)) (hok:∀r σ2,Post r σ2→r.refs (λd=>!([]:List Nat).contains d)=false∧σ2=[])
  (k:∀av σ2,Post av σ2→∃(hs2:List (Nat×Hint P)) (bT:Env) (σ3:Sto),aoK tb ids ops ⟨true,acA ops.toList,es⟩ l1 n l2 ms hs hs2 env σ av (nM bT) σ3.ids=some (bT,σ3,l2.map λi=>(hintOf hs2 i).exp)∧af ⟨P,N,ids⟩ y Q bT σ3):af ⟨P,N,ids⟩ (.seq (.region id ops true) y) Q env σ:=by
 simp only[aoJ]at h;split at h
 ·cases h
 ·rename_i e1 s1 obs hx;split at h
  ·cases h
  ·rename_i o ho;split at h
   ·cases h
   ·rename_i hg;split at h
    ·rename_i c hop;split at h
     ·cases h
     ·rename_i f' ps ha;split at h
      ·cases h
      ·rename_i wO hse;simp only[Option.some.injEq,Prod.mk.injEq]at h;obtain⟨rfl,rfl,hob⟩:=h;have hx0:=hx;simp only[aia]at hx;split at hx
       ·cases hx
       ·rename_i e0 s0 hm;refine A.weak (ql hm) (A.seq (A.any _ es (l1++n::l2) W.mix hd (Cert.app ?_)))
        have runl:∀{K:Env→Sto→Prop},K e1 s1→Cert ⟨P,N,ids⟩ ops ⟨true,acA ops.toList,es⟩ [] l1 e0 s0 K:=λ{K} hK=>by
         have:=nN (N:=N) (K:=K) W hx (by rw[hob,List.map_map];rfl) hK;rw[List.map_map,show((λx:Nat×Hint P=>x.1)∘λi=>(i,hintOf hs i))=λi=>i from rfl,List.map_id']at this;exact this
        refine runl λlog=>?_
        have D:=D.aeW (N:=N) (ids:=ids) (σ:=s1) (σc:=[]) [] hop ha hse rfl rfl (Sto.gi _) (λr σ2 hp=>by
         obtain⟨g1,g2⟩:=hok r σ2 hp;exact⟨g1,by rw[g2];rfl⟩) pf hc
        refine⟨o,ho,.inr (.inr (.inl ⟨by simp only[Want,hg],λ_=>List.contains_iff_mem.1 hes,[],[],_,D,λ_=>uK _ _ _,Env.gi _,λd hd=>(by cases hd),?_⟩))⟩;rintro av σ' ⟨σ2,hp,rfl⟩;obtain⟨g1,g2⟩:=hok av σ2 hp;subst g2;obtain⟨hs2,bT,σ3,p1,p2⟩:=k av [] hp;rw[show([]:Sto)++s1.minus (Sto.ids [])=s1 from ta s1];simp only[aoK,hx0,ho]at p1;split at p1
        ·cases p1
        ·rename_i e2 s2 obs2 hr2;split at p1
         ·cases p1
         ·rename_i e3 hk3;split at p1
          ·cases p1
          ·rename_i s3 hs3;simp only[Option.some.injEq,Prod.mk.injEq]at p1;obtain⟨rfl,rfl,ho2⟩:=p1;have:=xT (N:=N) (K:=λe s=>∃e3 s3,aU ⟨P,N,ids⟩ e s e3 s3∧af ⟨P,N,ids⟩ y Q e3 s3) (log:=log) W hr2 (by rw[ho2,List.map_map];rfl) ⟨_,_,aU.of (sJ hk3) (Sto.iQ hs3).1,p2⟩;rw[List.map_map,show((λx:Nat×Hint P=>x.1)∘λi=>(i,hintOf hs2 i))=λi=>i from rfl,List.map_id']at this;refine Cert.mono (λe s hK=>?_) this;obtain⟨e3',s3',w1,w2⟩:=hK;exact A.weak w1 w2
    ·cases h
end many
section made
variable {G:Gl}{σ:Sto}{o:Oper}{ev:Operand→AV}
theorem yx(zs:List Value)(h0:0<zs.length):∀n:Nat,(madeCells zs.toArray (n*zs.length)).toList=(List.replicate n zs).flatten
 |0=>by simp[madeCells]
 |n+1=>by
  have ih:=yx zs h0 n
  have e:∀m:Nat,(madeCells zs.toArray m).toList=(List.range m).map λi=>zs.toArray[i%zs.length]!:=λm=>by
   simp[madeCells,Array.toList_range]
  rw[e]at ih ⊢;rw[Nat.add_mul,Nat.one_mul,List.range_add,List.map_append,ih,List.replicate_succ',List.flatten_append,List.map_map];congr 1;simp only[List.flatten_cons,List.flatten_nil,List.append_nil];apply List.ext_getElem
  ·simp
  ·intro i h1 h2;have hi:i<zs.length:=h2;simp only[List.getElem_map,List.getElem_range,Function.comp];rw[Nat.mul_comm,Nat.mul_add_mod,Nat.mod_eq_of_lt hi];simp[hi]
theorem zW{I:Imm}:∀{a b:List AV} {u v:List Value},aS I a u→aS I b v→aS I (a++b) (u++v)
 |[],_,_,_,h,h2=>by simp only[aS]at h;subst h;exact h2
 |x::r,b,u,v,h,h2=>by
  simp only[aS]at h;obtain⟨y,ys,rfl,h3,h4⟩:=h;simp only[List.cons_append,aS];exact⟨y,_,rfl,h3,zW h4 h2⟩
theorem D.ae3{T E bytes sz d:Nat}{x y:Operand}{k k':IntKind}{n:Int}{as1:List AV}{zs:List Value}(h:o.op=.makeSlice T x y)(hx:ev x=.int k n)(hy:ev y=.int k' n)(hA:gL G.P T E sz bytes)(hS:iP G.P T E sz zs)(ha:∀I,aS I as1 zs)(hl:as1.length=sz)(hsz:0<sz)(hsm:sz≤64)(h0:0≤n)(hb:n≤4294967296)(hby:bytes≤65536)
  (hi:G.ids.contains d=false) (hc:σ.clean [d].contains=true):dU G o ev σ [d] [d] (λr σ'=>r=.own d∧σ'=(d,.slice E sz (List.replicate n.toNat as1) 0 false)::σ):=by
 intro cx I β w ρ hw hop;have h1:=hop x (by simp[h,Op.operands]);rw[hx]at h1;have h1:=de h1
 have h2:=hop y (by simp[h,Op.operands]);rw[hy]at h2;have h2:=de h2
 obtain⟨i,z,hi1,hz1,hz2,hz3,hz4⟩:=hA.info;obtain⟨z',g1,g2⟩:=hS.zero w;have:=abr hi1 hz1 g1;subst this;have hzl:=hS.zsz;have hmul:(i.bytes:Int)*n≤281474976710656:=by
  rw[hz3];have h1:(bytes:Int)*n≤(65536:Int)*4294967296:=Int.mul_le_mul (by omega) hb h0 (by omega);omega
 have hr:=run_make (P:=G.P) w T E i z' hA.und hi1 hz1 k k' n n h0 (Int.le_refl _) hmul (by omega);rw[hz2,g2]at hr;have hrun:(execOp ρ o).run G.P w=.ok (.value (.slice (some ⟨w.heap.size,0,none⟩) n.toNat n.toNat)) (w.alloc (.cells (madeCells zs.toArray (n.toNat*sz)) E)):=by simp[execOp,h,h1,h2,hr]
 rw[hrun];have hv:=hw.ov (mat:=[d]) (σ2:=σ) (env:=[]) ⟨λ_ _=>rfl,by simpa using hi,rfl,hc,λx hx dm n h=>by have:=(Sto.cm hc x _ h).1;rw[List.contains_iff_mem.2 hx]at this;cases this⟩;have hbi:en (dP β [d]) d (.slice (some ⟨w.heap.size,0,none⟩) n.toNat n.toNat) d=.slice (some ⟨w.heap.size,0,none⟩) n.toNat n.toNat:=bO _ _ _;have hb:∀y,y≠d→en (dP β [d]) d (.slice (some ⟨w.heap.size,0,none⟩) n.toNat n.toNat) y=β y:=λy hy=>by rw[cc _ _ hy];simp[dP,hy]
 refine⟨.own d,_,I,en (dP β [d]) d (.slice (some ⟨w.heap.size,0,none⟩) n.toNat n.toNat),⟨rfl,rfl⟩,?_,?_,aQ.refl I,λy hy=>hb y (by simpa using hy),λy hy=>by rw[Sto.aK,if_neg (Ne.symm (by simpa using hy))]⟩
 ·simp only[Rep,hbi,fP,and_self]
 ·refine hv.turn (d:=d) (Kept.alloc w _) (.inl hw.size) (λx hx=>by rw[Sto.aK,if_neg (Ne.symm hx)]) (λx hx hs e=>by
    obtain⟨ob,hs⟩:=Option.isSome_iff_exists.1 hs;exact absurd (hv.lE hs e) (by omega)) (aQ.refl I) (λ_ _ _=>rfl) (λo' v' hv'=>by rw[hw.ct (Nat.le_refl _)]at hv';cases hv') (hw.ct (Nat.le_refl _) none)
   (λx hx=>cc _ _ hx) (.inl (by simpa using hi)) (HLe.upd (by simp[dP])) (.inl (by rw[hbi];rfl)) λob hob=>?_
  rw[Sto.aK,if_pos rfl]at hob;cases hob;simp only[aj,hbi];refine .inr (.inr ⟨w.heap.size,n.toNat,_,by rw[List.length_replicate],by rw[List.length_replicate];exact Nat.le_refl _,by simp[maxLen];omega,heap_alloc_new w _,by rw[size_madeCells],?_,λe he=>by rw[List.eq_of_mem_replicate he];exact hl,Nat.zero_le _,by simp,λo _=>hw.ct (Nat.le_refl _) o,.inl hw.size⟩);have hm:=yx zs (by omega) n.toNat;rw[hzl]at hm;rw[hm,List.length_replicate];have:∀m:Nat,aS I (List.replicate m as1).flatten (List.replicate m zs).flatten:=by
   intro m;induction m with
   |zero=>simp[aS]
   |succ m ih=>
    simp only[List.replicate_succ,List.flatten_cons];exact zW (ha I) ih
  rw[List.take_of_length_le]
  ·exact this _
  ·rw[List.length_flatten,List.map_replicate,List.sum_replicate_nat,hzl];exact Nat.le_refl _
end made
section
variable {P:Program}
def ae4{α:Type}(T0 d E sz:Nat)(x0:α)(e:α→List AV)(n:Int)(ids:List Nat)(op:Op)(env:Env)(σ:Sto):Option (Stp×Obs):=match op with
 |.makeSlice T x y=>(match env.evo x with
  |some (.int _ n1)=>(match env.evo y with
   |some (.int _ n2)=>bif Nat.beq T T0&&!ids.contains d&&σ.clean [d].contains then some (.e [d] [d] (.own d) ((d,.slice E sz ((List.replicate n.toNat x0).map e) 0 false)::σ),([.int .i64 n1,.int .i64 n2],[]))else none
   |_=>none)
  |_=>none)
 |_=>none
theorem alJ{α:Type}{T0 E bytes sz d:Nat}{x0:α}{e:α→List AV}{n:Int}{zs:List Value}(hA:gL P T0 E sz bytes)(hS:iP P T0 E sz zs)(ha:∀I,aS I (e x0) zs)(hl:(e x0).length=sz)(hsz:0<sz)(hsm:sz≤64)(h0:0≤n)(hb:n≤4294967296)(hby:bytes≤65536){o:Oper}{N:Nat}{ids:List Nat}{env:Env}{σ:Sto}{s:Stp}{ob:Obs}
  (h:ae4 T0 d E sz x0 e n ids o.op env σ=some (s,ob)) (he:ob=([.int .i64 n,.int .i64 n],[])):cz ⟨P,N,ids⟩ o env σ s:=by
 cases ho:o.op<;>rw[ho]at h
 case makeSlice T x y=>
  simp only[ae4]at h;split at h
  ·rename_i k1 n1 hx;split at h
   ·rename_i k2 n2 hy;cases hc:(Nat.beq T T0&&!ids.contains d&&σ.clean [d].contains)with
    |false=>rw[hc]at h;cases h
    |true=>
     rw[hc]at h;simp only[Bool.and_eq_true,Bool.not_eq_true']at hc;obtain⟨⟨b1,b2⟩,b3⟩:=hc;have:=Nat.eq_of_beq_eq_true b1;subst this;cases h;simp only[Prod.mk.injEq,List.cons.injEq,AV.int.injEq,and_true,true_and]at he;obtain⟨rfl,rfl⟩:=he;rw[List.map_replicate];exact⟨D.ae3 ho (Env.aG hx) (Env.aG hy) hA hS ha hl hsz hsm h0 hb hby b2 b3,by simp only[List.all_cons,List.all_nil,b2];rfl⟩
   ·cases h
  ·cases h
 all_goals (simp only[ae4]at h;cases h)
def hmsN{α:Type}{T0 E bytes sz:Nat}{zs:List Value}(d:Nat)(x0:α)(e:α→List AV)(n:Int)(hA:gL P T0 E sz bytes)(hS:iP P T0 E sz zs)(ha:∀I,aS I (e x0) zs)(hl:(e x0).length=sz)(hsz:0<sz)(hsm:sz≤64)(hn:(decide (0≤n)&&decide (n≤4294967296))=true)(hby:bytes≤65536):Hint P:=
 .gs true ([.int .i64 n,.int .i64 n],[]) (ae4 T0 d E sz x0 e n) λ_ _ _ _ _ _ _ h he=>by
  simp only[Bool.and_eq_true,decide_eq_true_eq]at hn;exact alJ hA hS ha hl hsz hsm hn.1 hn.2 hby h he
end
theorem aoL{P:Program}{κ α:Type}{di clock i:Nat}{ek:κ→AV}{es:Array MapEntry}{seen:Array Nat}{e:MapEntry}{n:κ}{v:α}{l:List (κ×α)}{enc:α→AV}(hE:es[i]?=some e)(hl:l[i]?=some (n,v)){o:Oper}{ids:List Nat}{σ:Sto}{s:Stp}
  (h:exF di (.tup [ek n,enc v]) o.op env σ=some (s,ob)) (he:ob=([.mpf (bG ek enc l)],[(0,.ei es clock [] (seen.push e.born))])):cz ⟨P,N,ids⟩ o env σ s:=by
 cases ho:o.op<;>rw[ho]at h
 case entry x=>
  simp only[exF]at h;split at h
  ·rename_i di' hx;split at h
   ·rename_i es' c aL seen' hd;cases hb:Nat.beq di' di with
    |false=>rw[hb]at h;cases h
    |true=>
     rw[hb]at h;have:=Nat.eq_of_beq_eq_true hb;subst this;cases h;simp only[Prod.mk.injEq,List.cons.injEq,AV.mpf.injEq,br.ei.injEq,and_true,true_and]at he;obtain⟨rfl,rfl,rfl,rfl⟩:=he;exact Y.aoi l enc ho (Env.aG hx) hd hE hl
   ·cases h
  ·cases h
 all_goals (simp only[exF]at h;cases h)
def hxg{P:Program}{κ α:Type}{es:Array MapEntry}{i:Nat}{e:MapEntry}{n:κ}{v:α}{l:List (κ×α)}(di clock:Nat)(ek:κ→AV)(seen:Array Nat)(enc:α→AV)(hE:es[i]?=some e)(hl:l[i]?=some (n,v)):Hint P:=
 .gs false ([.mpf (bG ek enc l)],[(0,.ei es clock [] (seen.push e.born))]) (λ_=>exF di (.tup [ek n,enc v])) λ_ _ _ _ _ _ _ h he=>aoL hE hl h he
end Go.Proofs.YtmnbolcmepihlaaGreat
