/- Maps from tO bz no He turn; hg entry yF, and stored; yZ of many qE where aR oV is free. bM bN cu cg bz cv in ck. -/
import Derived.Test.YtmnbolcmepihlaaGreatCY
namespace Go.Proofs.YtmnbolcmepihlaaGreat
set_option linter.all false
open Go
section look
variable {P:Program}{I:bw}{bA α:Type}{K:TypeId}{b4:bA→U}{q:bA→bA→Bool}{enc:α→U}
def lY{bA α:Type}(q:bA→bA→Bool)(l:List (bA×α))(n:bA):Nat:=l.findIdx λp=>q n p.1
theorem Dd(fz:Bt P K b4 q)(n:bA)(w:World):∀(l:List (bA×α)) (es:List MapEntry) (i:Nat) (a:α),e9 I (dz b4 enc l) es→c3 q l n=some a→
  ∃e,(Instr.findAsking K (valOf (b4 n)) es i).run P w=.ok (some (i+lY q l n,e.val)) w∧aO I (enc a) e.val∧es[lY q l n]?=some e∧e.key=valOf (b4 n)∧
   ∀(b:α) (hj:MapEntry→MapEntry),(∀e,aO I (b4 n) e.key→aO I (b4 n) (hj e).key)→(∀e,aO I (enc b) (hj e).val)→e9 I (dz b4 enc (ga q l n b)) (es.modify (lY q l n) hj)
 |[],es,i,a,h,bl=>by simp[c3]at bl
 |(m,b)::r,es,i,a,h,bl=>by
  simp only[dz,List.map_cons,e9]at h;obtain⟨e,bF,rfl,h1,D,ak⟩:=h;have ue:=aO.plain (fz.plain m) h1;have aA:=fz.eq n m w;cases hm:q n m with
  |true=>
   have:=fz.same n m hm;subst this;simp only[c3,List.find?,hm,Option.map_some,Option.some.injEq]at bl;subst bl;rw[hm]at aA;have bJ:lY q ((n,b)::r) n=0:=by simp[lY,List.findIdx_cons,hm]
   rw[bJ];refine⟨e,?_,D,rfl,ue,?_⟩
   ·rw[Instr.findAsking];simp[ue,aA]
   ·intro c hj hk af;simp only[ga,hm,cond_true,dz,List.map_cons,e9,List.modify_zero_cons];exact⟨hj e,bF,rfl,hk e h1,af e,ak⟩
  |false=>
   have pY:c3 q r n=some a:=by simpa [c3,List.find?,hm]using bl
   obtain⟨cw,an,au,aK,aG,bb⟩:=Dd fz n w r bF (i+1) a ak pY;rw[hm]at aA;have bJ:lY q ((m,b)::r) n=lY q r n+1:=by simp[lY,List.findIdx_cons,hm]
   rw[bJ];refine⟨cw,?_,au,by simpa using aK,aG,?_⟩
   ·rw[Instr.findAsking];simp only[Sem.run_bind,ue,aA,Result.andThen_ok];simp only[Bool.false_eq_true,if_false];rw[an];simp[Nat.add_assoc,Nat.add_comm 1]
   ·intro c hj hk af;simp only[ga,hm,cond_false,dz,List.map_cons,e9,List.modify_succ_cons];exact⟨e,_,rfl,h1,D,bb c hj hk af⟩
theorem No(bR:∀n,q n n=true):∀(l:List (bA×α)) (n:bA) (v:α),c3 q (ga q l n v) n=some v
 |[],n,v=>by simp[ga,c3,List.find?,bR]
 |p::r,n,v=>by
  cases hm:q n p.1 with
  |true=>simp[ga,hm,c3,List.find?,bR]
  |false=>
   have:=No bR r n v;simp only[ga,hm,cond_false];simpa [c3,List.find?,hm]using this
end look
section ops
variable {G:cq}{σ:Y}{o:Oper}{ev:Operand→U}
theorem TV{I:bw}{β:Nat→Value}{w:World}{aP:Operand→Value}{bA α:Type}{T K E:Nat}{b4:bA→U}{q:bA→bA→Bool}{x y:Operand}{ok:Bool}{n:bA}(l:List (bA×α))(enc:α→U)(z:α)(h:o.op=.lookup T x y ok)(h1:Ah I w (aP x) (dz b4 enc l))(D:aP y=valOf (b4 n))
  (aH:kR G.P T K E b4 q) (hz:∀w,∃v,(zeroValue E).run G.P w=.ok v w∧∀I,aO I (enc z) v) :
  ∃v,(execOp aP o).run G.P w=.ok (.value v) w∧ar I β (bif ok then .cD [enc ((c3 q l n).getD z),.bool (c3 q l n).isSome]else enc ((c3 q l n).getD z)) v:=by
 obtain⟨r,es,clock,hH,au,aK⟩:=h1;have aA:∀w,(underlying T).run G.P w=.ok (.map K E) w:=λw=>by simp[underlying,program,Sem.run,aH.gv]
 have b6:=nS (P:=G.P) au;have cQ:=aH.key.ij (es.isEmpty) n w;have e0:=x8 aH.key n w es.toList;cases bl:c3 q l n with
 |none=>
  obtain⟨bU,_⟩:=s9 aH.key n w l es.toList 0 aK bl;obtain⟨v,lp,mz⟩:=hz w;have fo:(Instr.findKey K (valOf (b4 n)) es.toList).run G.P w=.ok none w:=by rw[e0,bU]
  cases ok with
  |true=>
   refine⟨.tuple #[v,.bool false],by simp[execOp,h,Instr.lookup,hH,D,aA,b6,cQ,fo,lp],?_⟩;simp only[cond_true,ar,bO];exact⟨_,rfl,v,[.bool false],rfl,aO.rep β _ _ (mz I),.bool false,[],rfl,by simp[aO],rfl⟩
  |false=>
   refine⟨v,by simp[execOp,h,Instr.lookup,hH,D,aA,b6,cQ,fo,lp],?_⟩;simp only[cond_false];exact aO.rep β _ _ (mz I)
 |some a=>
  obtain⟨j,v,bU,cG,_⟩:=CS aH.key n w l es.toList 0 a aK bl;have fo:(Instr.findKey K (valOf (b4 n)) es.toList).run G.P w=.ok (some (0+j,v)) w:=by rw[e0,bU]
  cases ok with
  |true=>
   refine⟨.tuple #[v,.bool true],by simp[execOp,h,Instr.lookup,hH,D,aA,b6,cQ,fo],?_⟩;simp only[cond_true,ar,bO];exact⟨_,rfl,v,[.bool true],rfl,aO.rep β _ _ cG,.bool true,[],rfl,by simp[aO],rfl⟩
  |false=>
   refine⟨v,by simp[execOp,h,Instr.lookup,hH,D,aA,b6,cQ,fo],?_⟩;simp only[cond_false];exact aO.rep β _ _ cG
theorem bG.W8{bA α:Type}{T K E:Nat}{b4:bA→U}{q:bA→bA→Bool}{x y:Operand}{ok:Bool}{n:bA}(l:List (bA×α))(enc:α→U)(z:α)(h:o.op=.lookup T x y ok)(u:ev x=.de (dz b4 enc l))(ah:ev y=b4 n)(aH:kR G.P T K E b4 q)(hz:∀w,∃v,(zeroValue E).run G.P w=.ok v w∧∀I,aO I (enc z) v):
  Yields G o ev σ [] [] (bif ok then .cD [enc ((c3 q l n).getD z),.bool (c3 q l n).isSome]else enc ((c3 q l n).getD z)):=
 .pure λaz cx I β w aP b2 aq hop=>by
  have h1:=hop x (by simp[h,Op.operands]);rw[u]at h1
  have D:=hop y (by simp[h,Op.operands]);rw[ah]at D;have D:=rU _ _ (aH.key.plain n) D
  exact TV l enc z h (NA aq h1) D aH hz
theorem bG.W9{bA α:Type}{T K E iW kF d clock:Nat}{es:Array MapEntry}{b4:bA→U}{q:bA→bA→Bool}{x y:Operand}{ok:Bool}{n:bA}(l:List (bA×α))(enc:α→U)(z:α)(h:o.op=.lookup T x y ok)(u:ev x=.dm d)(ah:ev y=b4 n)(Z:σ.get d=some (.gj es clock iW kF (dz b4 enc l)))(aH:kR G.P T K E b4 q)(hz:∀w,∃v,(zeroValue E).run G.P w=.ok v w∧∀I,aO I (enc z) v):
  Yields G o ev σ [] [d] (bif ok then .cD [enc ((c3 q l n).getD z),.bool (c3 q l n).isSome]else enc ((c3 q l n).getD z)):=
 .pure λaz cx I β w aP b2 aq hop=>by
  have h1:=hop x (by simp[h,Op.operands]);rw[u]at h1
  have D:=hop y (by simp[h,Op.operands]);rw[ah]at D;have D:=rU _ _ (aH.key.plain n) D
  exact TV l enc z h (Nz aq (by rw[b2 d (by simp)];exact Z) h1) D aH hz
def tN{bA α:Type}(q:bA→bA→Bool)(l:List (bA×α))(n:bA)(es:Array MapEntry):Int:=((es[lY q l n]?).map λe=>(e.born:Int)).getD 0
theorem TW{cx:eO}{I:bw}{β:Nat→Value}{w:World}(aq:bS G cx I β σ w){d clock:Nat}{es:Array MapEntry}{K E:TypeId}{bx:List (U×U)}(Z:σ.get d=some (.gj es clock K E bx)){v:Value}(af:ar I β (.dm d) v):
  ∃r,v=.map (some r)∧β d=.map (some r)∧w.heap[r]?=some (.map es clock)∧e9 I bx es.toList∧(∀o,I r o=none)∧Place cx r∧iK es clock:=by
 simp only[ar]at af;obtain⟨rfl,af⟩:=af;have:=aq.cB d _ Z;simp only[aU]at this;rcases this with q|⟨r,an,au,aK,aG,bb,bC⟩
 ·rw[q]at af;simp[k3]at af
 ·exact⟨r,an,an,au,aK,aG,bb,bC⟩
theorem en.VZ{bA α:Type}{T K E d clock:Nat}{es:Array MapEntry}{b4:bA→U}{q:bA→bA→Bool}{x y:Operand}{n:bA}(l:List (bA×α))(enc:α→U)(a:α)(h:o.op=.mapEntry T x y)(u:ev x=.dm d)(ah:ev y=b4 n){iW kF:Nat}(Z:σ.get d=some (.gj es clock iW kF (dz b4 enc l)))
  (aH:kR G.P T K E b4 q) (bl:c3 q l n=some a):g8 G o ev σ [] [] (λr az=>r=.cD [enc a,.int .i64 (tN q l n es)]∧az=σ):=by
 intro cx I β w aP aq hop;have h1:=hop x (by simp[h,Op.operands]);rw[u]at h1
 have D:=hop y (by simp[h,Op.operands]);rw[ah]at D
 have D:=rU _ _ (aH.key.plain n) D;obtain⟨r,hH,an,au,aK,aG,bb,bC⟩:=TW aq Z h1;have aA:∀w,(underlying T).run G.P w=.ok (.map K E) w:=λw=>by simp[underlying,program,Sem.run,aH.gv]
 have b6:=nS (P:=G.P) au;have cQ:=aH.key.ij false n w;have e0:=x8 aH.key n w es.toList;have gy:(setObj r (.map es clock)).run G.P w=.ok () w:=by
  have bQ:=gV au;have:w.heap.setIfInBounds r (.map es clock)=w.heap:=by
   apply Array.ext_getElem?;intro i;by_cases hi:r=i
   ·subst hi;rw[Array.getElem?_setIfInBounds_self_of_lt bQ,au]
   ·rw[Array.getElem?_setIfInBounds_ne hi]
  simp[setObj,Sem.run,au,this]
 obtain⟨cw,bU,cG,dP,gT,kk⟩:=Dd aH.key n w l es.toList 0 a aK bl;have fo:(Instr.findKey K (valOf (b4 n)) es.toList).run G.P w=.ok (some (0+lY q l n,cw.val)) w:=by rw[e0,bU]
 have jX:es[lY q l n]?=some cw:=by simpa using dP
 have kK:(Instr.keyThatStays (valOf (b4 n)) (valOf (b4 n))).run G.P w=.ok (valOf (b4 n)) w:=by simp[Instr.keyThatStays,aH.key.bits n]
 have ki:tN q l n es=(cw.born:Int):=by unfold tN;rw[jX];rfl
 have J2:es.modify (lY q l n) (λe=>{e with key:=valOf (b4 n)})=es:=by
  apply Array.ext';rw[Array.toList_modify];apply List.ext_getElem?;intro i;rw[List.getElem?_modify];by_cases hi:lY q l n=i
  ·subst hi;have afC:es.toList[lY q l n]?=some cw:=by simpa using jX
   rw[afC];simp only[Option.map_eq_map,Option.map_some,if_true];congr 1;cases cw;simp only at gT;rw[gT]
  ·simp[hi]
 have eX:(execOp aP o).run G.P w=.ok (.value (.tuple #[cw.val,.int .i64 (tN q l n es)])) w:=by
  rw[ki];simp[execOp,h,Instr.mapEntry,hH,D,aA,b6,cQ,fo,jX,gT,kK,J2,gy,goInt]
 rw[eX];refine⟨_,_,I,β,⟨rfl,rfl⟩,?_,aq,b7.refl I,λ_ _=>rfl,λx u=>rfl⟩;simp only[ar,bO];exact⟨_,rfl,_,_,rfl,aO.rep β _ _ cG,_,_,rfl,by simp[aO],rfl⟩
theorem Ts{l:List MapEntry}(aT:(l.map (·.born)).Nodup){j:Nat}{e0:MapEntry}(h:l[j]?=some e0):l.findIdx? (λe=>((e.born:Nat):Int)==((e0.born:Nat):Int))=some j:=by
 induction l generalizing j with
 |nil=>simp at h
 |cons a r bD=>
  simp only[List.map_cons,List.nodup_cons]at aT;cases j with
  |zero=>
   simp only[List.getElem?_cons_zero,Option.some.injEq]at h;subst h;simp[List.findIdx?_cons]
  |succ j=>
   simp only[List.getElem?_cons_succ]at h;have ct:a.born≠e0.born:=λaA=>aT.1 (List.mem_map.2 ⟨e0,List.mem_of_getElem? h,aA.symm⟩);have V:(((a.born:Nat):Int)==((e0.born:Nat):Int))=false:=by
    simp only[beq_eq_false_iff_ne,ne_eq,Int.natCast_inj];exact ct
   rw[List.findIdx?_cons,V];simp[bD aT.2 h]
theorem en.VC{bA α:Type}{T K E aV d clock:Nat}{es:Array MapEntry}{b4:bA→U}{q:bA→bA→Bool}{x s y:Operand}{n:bA}(l:List (bA×α))(enc:α→U)(v:α)(h:o.op=.entryStore aV x s y)(u:ev x=.dm d)(W:ev s=.int .i64 (tN q l n es))(ah:ev y=enc v)(aa:(enc v).closed=true){iW kF:Nat}(Z:σ.get d=some (.gj es clock iW kF (dz b4 enc l)))
  (aH:kR G.P T K E b4 q) (bl:(c3 q l n).isSome=true):g8 G o ev σ [d] [] (λr az=>r=.undef∧az=σ.set d (.map iW kF (dz b4 enc (ga q l n v)))):=by
 intro cx I β w aP aq hop;have h1:=hop x (by simp[h,Op.operands]);rw[u]at h1
 have D:=hop s (by simp[h,Op.operands]);rw[W]at D
 have D:=iH D;have ak:=hop y (by simp[h,Op.operands]);rw[ah]at ak
 have ak:=ar.closed _ _ aa ak;obtain⟨r,hH,an,au,aK,aG,bb,bC⟩:=TW aq Z h1;obtain⟨a,bl⟩:=Option.isSome_iff_exists.1 bl;obtain⟨cw,bU,cG,dP,gT,kk⟩:=Dd aH.key n w l es.toList 0 a aK bl;have jX:es[lY q l n]?=some cw:=by simpa using dP
 have b6:=nS (P:=G.P) au;have ki:tN q l n es=(cw.born:Int):=by unfold tN;rw[jX];rfl
 have JS:es.findIdx? (λe=>((e.born:Nat):Int)==((cw.born:Nat):Int))=some (lY q l n):=by
  have:es.findIdx? (λe=>((e.born:Nat):Int)==((cw.born:Nat):Int))=es.toList.findIdx? (λe=>((e.born:Nat):Int)==((cw.born:Nat):Int)):=by cases es;simp
  rw[this];exact Ts bC.1 dP
 have gy:∀aI:Obj,(setObj r aI).run G.P w=.ok () {w with heap:=w.heap.setIfInBounds r aI}:=λaI=>by
  have:=gV au;simp[setObj,Sem.run,au]
 have eX:(execOp aP o).run G.P w=.ok .skip {w with heap:=w.heap.setIfInBounds r (.map (es.modify (lY q l n) λe=>{e with val:=aP y}) clock)}:=by
  simp[execOp,h,Instr.entryStore,hH,D,ki,b6,asInt,asIntOf,JS,gy]
 rw[eX];refine⟨.undef,_,I,β,⟨rfl,rfl⟩,by simp[ar,aO],?_,b7.refl I,λ_ _=>rfl,λx u=>by rw[Y.hU,if_neg (by simpa using u)]⟩;have eT:bV (β d)=some r:=by rw[an];rfl
 refine aq.turn (d:=d) (gn.setObj w r _) bb (λx u=>by rw[Y.hU,if_neg u]) (λx u W e=>aq.dn x d W (by rw[Z];rfl) u r e (je eT)) (b7.refl I) (λ_ _ _=>rfl)
  (λo v af=>by rw[aG o]at af;cases af) (aG none) (λ_ _=>rfl) (.inr rfl) (g0.refl β) (.inl eT) λaI b3=>?_
 rw[Y.hU,if_pos rfl,Z]at b3;injection b3 with b3
 subst b3;simp only[aU];exact .inr ⟨r,es.modify (lY q l n) (λe=>{e with val:=aP y}),clock,an,by have:=gV au;simp[Array.getElem?_setIfInBounds,this],by simpa using kk v (λe=>{e with val:=aP y}) (λe h=>h) (λe=>ak),aG,bb,bC.modify _ _ λ_=>rfl⟩
end ops
section hints
variable {P:Program}
def D3{bA α:Type}(aV:Nat)(q:bA→bA→Bool)(l:List (bA×α))(n:bA)(enc:α→U)(z:α)(op:Op)(env:ai)(σ:Y):Option (cA×cf):=match op with
 |.lookup T x y ok=>(match env.cz x with
  |some (.de bx)=>(match env.cz y with
   |some a=>bif Nat.beq T aV then some (.y [] (bif ok then .cD [enc ((c3 q l n).getD z),.bool (c3 q l n).isSome]else enc ((c3 q l n).getD z)),([.de bx,a],[]))else none
   |_=>none)
  |some (.dm d)=>(match env.cz y with
   |some a=>(match σ.get d with
    |some (.gj _ _ _ _ bx)=>bif Nat.beq T aV then some (.y [d] (bif ok then .cD [enc ((c3 q l n).getD z),.bool (c3 q l n).isSome]else enc ((c3 q l n).getD z)),([.de bx,a],[]))else none
    |_=>none)
   |_=>none)
  |_=>none)
 |_=>none
theorem YI{bA α:Type}{aV e4 eH:Nat}{b4:bA→U}{q:bA→bA→Bool}{l:List (bA×α)}{n:bA}{enc:α→U}{z:α}(aH:kR P aV e4 eH b4 q)(hz:∀w,∃v,(zeroValue eH).run P w=.ok v w∧∀I,aO I (enc z) v){o:Oper}{N:Nat}{ids:List Nat}{env:ai}{σ:Y}{s:cA}{aI:cf}
  (h:D3 aV q l n enc z o.op env σ=some (s,aI)) (he:aI=([.de (dz b4 enc l),b4 n],[])):e1 ⟨P,N,ids⟩ o env σ s:=by
 cases aj:o.op<;>rw[aj]at h
 case lookup T x y ok=>
  simp only[D3]at h;split at h
  ·rename_i bx u;split at h
   ·rename_i a ah;cases V:Nat.beq T aV with
    |false=>rw[V]at h;cases h
    |true=>
     rw[V]at h;have:=Nat.eq_of_beq_eq_true V;subst this;cases h;simp only[Prod.mk.injEq,List.cons.injEq,U.de.injEq,and_true]at he;obtain⟨rfl,rfl⟩:=he;exact bG.W8 l enc z aj (ai.b5 u) (ai.b5 ah) aH hz
   ·cases h
  ·rename_i d u;split at h
   ·rename_i a ah;split at h
    ·rename_i es clock K E bx Z;cases V:Nat.beq T aV with
     |false=>rw[V]at h;cases h
     |true=>
      rw[V]at h;have:=Nat.eq_of_beq_eq_true V;subst this;cases h;simp only[Prod.mk.injEq,List.cons.injEq,U.de.injEq,and_true]at he;obtain⟨rfl,rfl⟩:=he;exact bG.W9 l enc z aj (ai.b5 u) (ai.b5 ah) Z aH hz
    ·cases h
   ·cases h
  ·cases h
 all_goals (simp only[D3]at h;cases h)
def IN{bA α:Type}{aV e4 eH:Nat}{b4:bA→U}{q:bA→bA→Bool}(l:List (bA×α))(n:bA)(enc:α→U)(z:α)(aH:kR P aV e4 eH b4 q)(hz:∀w,∃v,(zeroValue eH).run P w=.ok v w∧∀I,aO I (enc z) v):Hint P:=
 .gs false ([.de (dz b4 enc l),b4 n],[]) (λ_=>D3 aV q l n enc z) λ_ _ _ _ _ _ _ h he=>YI aH hz h he
def D4{bA α:Type}(aV:Nat)(q:bA→bA→Bool)(l:List (bA×α))(n:bA)(enc:α→U)(a:α)(op:Op)(env:ai)(σ:Y):Option (cA×cf):=match op with
 |.mapEntry T x y=>(match env.cz x with
  |some (.dm d)=>(match env.cz y with
   |some k=>(match σ.get d with
    |some (.gj es _ _ _ bx)=>bif Nat.beq T aV then some (.e [] [] (.cD [enc a,.int .i64 (tN q l n es)]) σ,([.de bx,k],[]))else none
    |_=>none)
   |_=>none)
  |_=>none)
 |_=>none
theorem YJ{bA α:Type}{aV e4 eH:Nat}{b4:bA→U}{q:bA→bA→Bool}{l:List (bA×α)}{n:bA}{enc:α→U}{a:α}(aH:kR P aV e4 eH b4 q)(bl:c3 q l n=some a){o:Oper}{N:Nat}{ids:List Nat}{env:ai}{σ:Y}{s:cA}{aI:cf}
  (h:D4 aV q l n enc a o.op env σ=some (s,aI)) (he:aI=([.de (dz b4 enc l),b4 n],[])):e1 ⟨P,N,ids⟩ o env σ s:=by
 cases aj:o.op<;>rw[aj]at h
 case mapEntry T x y=>
  simp only[D4]at h;split at h
  ·rename_i d u;split at h
   ·rename_i k ah;split at h
    ·rename_i es clock K E bx Z;cases V:Nat.beq T aV with
     |false=>rw[V]at h;cases h
     |true=>
      rw[V]at h;have:=Nat.eq_of_beq_eq_true V;subst this;cases h;simp only[Prod.mk.injEq,List.cons.injEq,U.de.injEq,and_true]at he;obtain⟨rfl,rfl⟩:=he;exact⟨en.VZ l enc a aj (ai.b5 u) (ai.b5 ah) Z aH bl,rfl⟩
    ·cases h
   ·cases h
  ·cases h
 all_goals (simp only[D4]at h;cases h)
def QL{bA α:Type}{aV e4 eH:Nat}{b4:bA→U}{q:bA→bA→Bool}(l:List (bA×α))(n:bA)(enc:α→U)(a:α)(aH:kR P aV e4 eH b4 q)(bl:c3 q l n=some a):Hint P:=
 .gs true ([.de (dz b4 enc l),b4 n],[]) (λ_=>D4 aV q l n enc a) λ_ _ _ _ _ _ _ h he=>YJ aH bl h he
def D5{bA α:Type}(b4:bA→U)(q:bA→bA→Bool)(l:List (bA×α))(n:bA)(enc:α→U)(v:α)(op:Op)(env:ai)(σ:Y):Option (cA×cf):=match op with
 |.entryStore _ x s y=>(match env.cz x with
  |some (.dm d)=>(match env.cz s with
   |some a=>(match env.cz y with
    |some b=>(match σ.get d with
     |some (.gj es clock K E bx)=>some (.e [d] [] .undef (σ.set d (.map K E (dz b4 enc (ga q l n v)))),([.de bx,a,b],[(0,.gj es clock 0 0 [])]))
     |_=>none)
    |_=>none)
   |_=>none)
  |_=>none)
 |_=>none
theorem YK{bA α:Type}{aV e4 eH HH:Nat}{BJ:Array MapEntry}{b4:bA→U}{q:bA→bA→Bool}{l:List (bA×α)}{n:bA}{enc:α→U}{v:α}(aH:kR P aV e4 eH b4 q)(aa:(enc v).closed=true)(bl:(c3 q l n).isSome=true){o:Oper}{N:Nat}{ids:List Nat}{env:ai}{σ:Y}{s:cA}{aI:cf}
  (h:D5 b4 q l n enc v o.op env σ=some (s,aI)) (he:aI=([.de (dz b4 enc l),.int .i64 (tN q l n BJ),enc v],[(0,.gj BJ HH 0 0 [])])):e1 ⟨P,N,ids⟩ o env σ s:=by
 cases aj:o.op<;>rw[aj]at h
 case entryStore T x s y=>
  simp only[D5]at h;split at h
  ·rename_i d u;split at h
   ·rename_i a W;split at h
    ·rename_i b ah;split at h
     ·rename_i es clock K E bx Z;cases h;simp only[Prod.mk.injEq,List.cons.injEq,U.de.injEq,cn.gj.injEq,and_true,true_and]at he;obtain⟨⟨rfl,rfl,rfl⟩,rfl,rfl⟩:=he;exact⟨en.VC l enc v aj (ai.b5 u) (ai.b5 W) (ai.b5 ah) aa Z aH bl,rfl⟩
     ·cases h
    ·cases h
   ·cases h
  ·cases h
 all_goals (simp only[D5]at h;cases h)
def QM{bA α:Type}{aV e4 eH:Nat}{b4:bA→U}{q:bA→bA→Bool}(BJ:Array MapEntry)(HH:Nat)(l:List (bA×α))(n:bA)(enc:α→U)(v:α)(aH:kR P aV e4 eH b4 q)(aa:(enc v).closed=true)(bl:(c3 q l n).isSome=true):Hint P:=
 .gs true ([.de (dz b4 enc l),.int .i64 (tN q l n BJ),enc v],[(0,.gj BJ HH 0 0 [])]) (λ_=>D5 b4 q l n enc v) λ_ _ _ _ _ _ _ h he=>YK aH aa bl h he
theorem Ol{bA α:Type}{q:bA→bA→Bool}{l:List (bA×α)}{n:bA}{z:α}(h:(c3 q l n).isSome=true):c3 q l n=some ((c3 q l n).getD z):=by
 cases bl:c3 q l n with
 |none=>rw[bl]at h;cases h
 |some a=>rfl
end hints
theorem kM.mono{P:Program}{Φ DL:Value→World→Prop}{r:Result Next}(h:kM P Φ r)(aB:∀v w,Φ v w→DL v w):kM P DL r:=by
 cases r with
 |ok n w=>
  cases n with
  |value v=>exact aB _ _ h
  |skip=>exact aB _ _ h
  |enter f args=>exact Calls.mono h λe sL ⟨v,h1,D⟩=>⟨v,h1,aB _ _ D⟩
  |_=>exact h
 |_=>exact h
variable {news:List Nat}
theorem g8.MR{G:cq}{o:Oper}{ev:Operand→U}{σ σ2:Y}{M:List Nat}{r r':U}(h:g8 G o ev σ M news (λa az=>a=r∧az=σ2++σ))(W:iJ [] (σ2.freeze σ2.ids) r=some r')(aT:σ2.ids.all (λd=>(σ.get d).isNone)=true):
  g8 G o ev σ M news (λa az=>a=r'∧az=σ):=by
 intro cx I β w aP aq hop;refine kM.mono (h cx I β w aP aq hop) ?_;rintro v w' ⟨bE,az,aS,β',⟨rfl,rfl⟩,an,au,aK,aG,bb⟩;obtain⟨DN,hle,jJ⟩:=au.CV σ2.ids
 have jq:∀d o,σ.get d=some o→((σ2++σ).freeze σ2.ids).get d=some o:=λd o Z=>by
  have xM:d∉σ2.ids:=λhm=>by
   have:=List.all_eq_true.1 aT d hm;rw[Z]at this;cases this
  rw[Y.l8,Y.um];have:σ2.get d=none:=by
   cases h:σ2.get d with
   |none=>rfl
   |some x=>
    obtain⟨p,bU,cG,_⟩:=p8 σ2 d x h;exact absurd (by rw[←cG];exact List.mem_map.2 ⟨p,bU,rfl⟩) xM
  rw[this];simp[Z,xM]
 have aeh:∀d o,(σ2.freeze σ2.ids).get d=some o→((σ2++σ).freeze σ2.ids).get d=some o:=λd o Z=>by
  rw[Y.l8]at Z ⊢;rw[Y.um];cases h:σ2.get d with
  |none=>rw[h]at Z;simp at Z
  |some x=>rw[h]at Z;exact Z
 refine⟨r',σ,DN,β',⟨rfl,rfl⟩,(qZ W).rep (jJ.sub aeh) _ (yc hle (g0.refl _) _ _ an),jJ.sub jq,λb o v af=>hle _ _ _ (aK _ _ _ af),aG,λ_ _=>rfl⟩
def FA(ids:List Nat)(env:ai)(σ:Y)(ds news:List Nat)(r r':U)(σ2:Y)(op:Op):Option (cA×cf):=match op with
 |.call c=>match sv env c with
  |none=>none
  |some (f,rL)=>match σ.at ds with
   |none=>none
   |some σs=>match qg (yy 9 σs) rL with
    |none=>none
    |some cO=>match iJ [] (σ2.freeze σ2.ids) r with
     |none=>none
     |some x=>bif news.all (λd=>!ids.contains d&&(σ.get d).isNone)&&σ.clean news.contains&&r.oO&&!r.refs (λd=>!news.contains d)&&σ2.clean (λd=>!news.contains d)&&σ2.ids.all (λd=>(σ.get d).isNone)then some (.e news news r' σ,(.fn f []::x::cO,[]))else none
 |_=>none
variable {N:Nat}{aI:cf}{ds:List Nat}{env:ai}{f:FuncId}
theorem abu{P:Program}{ids:List Nat}{σ:Y}{o:Oper}{σ2:Y}{cO:List U}{r r':U}(bP:gi P f [] cO (λa az=>a=r∧az=σ2))(aa:dk P f)(vr:uI σ2){s:cA}(h:FA ids env σ ds news r r' σ2 o.op=some (s,aI))(he:aI=(.fn f []::r'::cO,[])):e1 ⟨P,N,ids⟩ o env σ s:=by
 cases aj:o.op<;>rw[aj]at h
 case call c=>
  simp only[FA]at h;split at h
  ·cases h
  ·rename_i mb rL aC;obtain⟨gH,args,k,aF,ps,rfl,be,aB,rfl⟩:=x7 aC;split at h
   ·cases h
   ·rename_i l3 mX;split at h
    ·cases h
    ·rename_i xb W;split at h
     ·cases h
     ·rename_i x u;generalize V:(news.all _&&_&&_&&_&&_&&_)=dY at h;cases dY with
      |false=>cases h
      |true=>
       simp only[Bool.and_eq_true,Bool.not_eq_true']at V;obtain⟨⟨⟨⟨⟨dJ,eL⟩,gQ⟩,jd⟩,rM⟩,Jc⟩:=V;cases h;simp only[Prod.mk.injEq,List.cons.injEq,U.fn.injEq,and_true]at he;obtain⟨rfl,rfl,rfl⟩:=he;exact⟨(en.Iy (G:=⟨P,N,ids⟩) (σs:=l3) 9 news aj be aa.h bP aB W (Y.oa mX).1 dJ eL gQ jd rM vr).MR u Jc,by rw[List.all_eq_true]at dJ ⊢;exact λd Z=>((Bool.and_eq_true _ _).mp (dJ d Z)).1⟩
 all_goals (simp only[FA]at h;cases h)
def ahk{P:Program}(ds news:List Nat){f:FuncId}{cO:List U}{r:U}(r':U){σ2:Y}(bP:gi P f [] cO (λa az=>a=r∧az=σ2))(aa:dk P f)(vr:uI σ2):Hint P:=
 .gs true (.fn f []::r'::cO,[]) (λids op env σ=>FA ids env σ ds news r r' σ2 op) λ_ _ _ _ _ _ _ h he=>abu bP aa vr h he
def Gj(env:ai)(ds:List Nat)(σ:Y)(r:U):Op→Option (cA×cf)
 |.call c=>match sv env c with
  |none=>none
  |some (f,rL)=>match σ.at (ds++yA rL)with
   |none=>none
   |some l3=>match yz l3 0 rL with
    |none=>none
    |some cO=>bif r.closed then some (.y l3.ids r,(.fn f []::cO,[]))else none
 |_=>none
theorem abv{P:Program}{ids:List Nat}{σ:Y}{o:Oper}{cO:List U}{r:U}(bP:ef P f [] cO r)(aa:dk P f){s:cA}(h:Gj env ds σ r o.op=some (s,aI))(he:aI=(.fn f []::cO,[])):e1 ⟨P,N,ids⟩ o env σ s:=by
 cases aj:o.op<;>rw[aj]at h
 case call c=>
  simp only[Gj]at h;split at h
  ·cases h
  ·rename_i mb rL aC;obtain⟨gH,args,k,aF,ps,rfl,be,aB,rfl⟩:=x7 aC;split at h
   ·cases h
   ·rename_i l3 mX;split at h
    ·cases h
    ·rename_i xb W;generalize V:r.closed=dY at h;cases dY with
     |false=>cases h
     |true=>
      cases h;simp only[Prod.mk.injEq,List.cons.injEq,U.fn.injEq,and_true]at he;obtain⟨rfl,rfl⟩:=he;exact bW.call (G:=⟨P,N,ids⟩) (σs:=l3) (dB:=[]) aj be aa.h bP aB (Gt W) (Y.oa mX).1 trivial V rfl
 all_goals (simp only[Gj]at h;cases h)
def Sv{P:Program}(ds:List Nat){f:FuncId}{cO:List U}{r:U}(bP:ef P f [] cO r)(aa:dk P f):Hint P:=
 .gs false (.fn f []::cO,[]) (λ_ op env σ=>Gj env ds σ r op) λ_ _ _ _ _ _ _ h he=>abv bP aa h he
section many
variable {P:Program}
theorem e7.app{G:cq}{ops:Array Oper}{s:jT}{K:ai→Y→Prop}{hQ:List Nat}:∀{jt:List Nat} {log:List (Nat×List Nat)} {env:ai} {σ:Y},e7 G ops s log jt env σ (λe az=>∀D1,e7 G ops s D1 hQ e az K)→e7 G ops s log (jt++hQ) env σ K
 |[],log,_,_,h=>h log
 |i::l,log,env,σ,h=>by
  obtain⟨o,aj,h⟩:=h;refine⟨o,aj,?_⟩;rcases h with⟨h1,D,ak⟩|⟨h1,D,dD,R,bE,σ2,ak,bc,bX,dV,fF⟩|⟨h1,D,M,news,Φ,ak,bc,bX,dV,fF⟩|⟨h1,D,ak⟩
  ·exact .inl ⟨h1,D,e7.app ak⟩
  ·exact .inr (.inl ⟨h1,D,dD,R,bE,σ2,ak,bc,bX,dV,e7.app fF⟩)
  ·exact .inr (.inr (.inl ⟨h1,D,M,news,Φ,ak,bc,bX,dV,λbE az bR=>e7.app (fF bE az bR)⟩))
  ·exact .inr (.inr (.inr ⟨h1,D,e7.app ak⟩))
def Be(bH:gC)(ids:List Nat)(ops:Array Oper)(s:jT):List (Nat×Hint P)→ai→Y→Option (ai×Y×List cf)
 |[],env,σ=>some (env,σ,[])
 |(i,h)::r,env,σ=>match ops[i]? with
  |none=>none
  |some o=>match AA ops o env with
   |none=>none
   |some false=>none
   |some true=>match yB bH ids o env σ h with
    |none=>none
    |some (.y R bE,aI)=>bif !m3 s i||Hj σ R then(match Be bH ids ops s r (env.put o.dst bE) σ with
     |none=>none
     |some (e,dg,i2)=>some (e,dg,aI::i2))else none
    |some (.v _ _ _,_)=>none
    |some (.e M news bE az,aI)=>bif sg s i&&M.isEmpty&&env.clean news.contains&&news.all (λd=>(σ.get d).isNone)then(match Be bH ids ops s r (env.put o.dst bE) az with
     |none=>none
     |some (e,dg,i2)=>some (e,dg,aI::i2))else none
theorem yq(s:jT)(i:Nat):∀log:List (Nat×List Nat),qf s i [] log=true
 |[]=>rfl
 |(j,R)::r=>by simp[qf,yq s i r]
theorem GX{bH:gC}{N:Nat}{ids:List Nat}{ops:Array Oper}{s:jT}{K:ai→Y→Prop}(a1:ji P bH):∀{fe:List (Nat×Hint P)} {log:List (Nat×List Nat)} {env ry:ai} {σ nh:Y} {i2:List cf},
  Be bH ids ops s fe env σ=some (ry,nh,i2)→i2=fe.map (λp=>p.2.exp)→K ry nh→e7 ⟨P,N,ids⟩ ops s log (fe.map (·.1)) env σ K
 |[],log,env,ry,σ,nh,i2,h,_,k=>by cases h;exact C.nil k
 |(i,hi)::r,log,env,ry,σ,nh,i2,h,he,k=>by
  simp only[Be]at h;split at h
  ·cases h
  ·rename_i o aj;split at h
   ·cases h
   ·cases h
   ·rename_i aq;split at h
    ·cases h
    ·rename_i R bE aI W;generalize V:(!m3 s i||_)=dY at h;cases dY with
     |false=>cases h
     |true=>
      simp only[cond_true]at h;split at h
      ·cases h
      ·rename_i e dg Bm ax;cases h;simp only[List.map_cons,List.cons.injEq]at he ⊢;have ha:=zV (N:=N) a1 W he.1;cases aB:m3 s i with
       |true=>
        rw[aB]at V;exact C.y aj (yg aq) aB (by simpa using V) ha (GX a1 ax he.2 k)
       |false=>exact C.sX aj (yg aq) (HO aB) ha (GX a1 ax he.2 k)
    ·cases h
    ·rename_i M news bE az aI W;generalize V:(sg s i&&_&&_&&_)=dY at h;cases dY with
     |false=>cases h
     |true=>
      simp only[cond_true]at h;simp only[Bool.and_eq_true]at V;split at h
      ·cases h
      ·rename_i e dg Bm ax;cases h;simp only[List.map_cons,List.cons.injEq]at he ⊢;have ha:=zV (N:=N) a1 W he.1;have mU:M=[]:=by simpa using V.1.1.2
       subst mU;refine C.e aj (yg aq) V.1.1.1 ha.1 (by rw[yq];simp) V.1.2 ?_ (λa dO cb=>?_)
       ·rw[List.all_eq_true];intro d Z;rw[Bool.and_eq_true];exact⟨List.all_eq_true.1 ha.2 d Z,List.all_eq_true.1 V.2 d Z⟩
       ·obtain⟨rfl,rfl⟩:=cb;exact GX a1 ax he.2 k
def IP(bH:gC)(ids:List Nat)(ops:Array Oper)(s:jT)(jt:List Nat)(iB:List l4)(W:List (Nat×Hint P))(env:ai)(σ:Y):Option (ai×Y×List cf):=match wT ids iB env σ with
 |none=>none
 |some (e0,h5)=>qq bH ids ops s (jt.map λi=>(i,hintOf W i)) [] e0 h5
def QN(bH:gC)(ids:List Nat)(ops:Array Oper)(s:jT)(jt:List Nat)(n:Nat)(iB:List l4)(W:List (Nat×Hint P))(env:ai)(σ:Y):Option (FuncId×List U×List cf):=match IP bH ids ops s jt iB W env σ with
 |none=>none
 |some (aA,dF,i2)=>match ops[n]? with
  |none=>none
  |some o=>match o.guard with
   |some _=>none
   |none=>match o.op with
    |.call c=>(match sv aA c with
     |none=>none
     |some (f,ps)=>match q3 [] dF ps with
      |none=>none
      |some cO=>some (f,cO,i2))
    |_=>none
def Qw(bH:gC)(ids:List Nat)(ops:Array Oper)(s:jT)(jt:List Nat)(n:Nat)(hQ:List Nat)(iB:List l4)(W eA:List (Nat×Hint P))(env:ai)(σ:Y)(bE:U)(ks ds:List Nat):Option (ai×Y×List cf):=match IP bH ids ops s jt iB W env σ with
 |none=>none
 |some (aA,dF,_)=>match ops[n]? with
  |none=>none
  |some o=>match Be bH ids ops s (hQ.map λi=>(i,hintOf eA i)) (aA.put o.dst bE) dF with
   |none=>none
   |some (e2,dO,i2)=>match yC [] ds dO e2 ks with
    |none=>none
    |some b6=>match dO.at ds with
     |none=>none
     |some s3=>some (b6,s3,i2)
theorem A.Vj{N:Nat}{ids:List Nat}{bH:gC}{env:ai}{σ:Y}{Q:Exit→ai→Y→Prop}{y:Code}(a1:ji P bH){id:Nat}{ops:Array Oper}(es jt:List Nat)(n:Nat)(hQ:List Nat)(iB:List l4)(W:List (Nat×Hint P)){f:FuncId}{cO:List U}{ho:U→Y→Prop}(bP:gi P f [] cO ho)(aa:dk P f)
  (Z:DD N ops ⟨true,Bn ops.toList,es⟩ (jt++n::hQ)=true) (i5:es.contains n=true) (h:QN bH ids ops ⟨true,Bn ops.toList,es⟩ jt n iB W env σ=some (f,cO,jt.map λi=>(hintOf W i).exp)) (iP:∀r σ2,ho r σ2→r.refs (λd=>!([]:List Nat).contains d)=false∧σ2=[])
  (k:∀bE σ2,ho bE σ2→∃(eA:List (Nat×Hint P)) (dx:ai) (σ3:Y),Qw bH ids ops ⟨true,Bn ops.toList,es⟩ jt n hQ iB W eA env σ bE (qh dx) σ3.ids=some (dx,σ3,hQ.map λi=>(hintOf eA i).exp)∧aY ⟨P,N,ids⟩ y Q dx σ3):aY ⟨P,N,ids⟩ (.seq (.region id ops true) y) Q env σ:=by
 simp only[QN]at h;split at h
 ·cases h
 ·rename_i aA dF i2 u;split at h
  ·cases h
  ·rename_i o aj;split at h
   ·cases h
   ·rename_i bl;split at h
    ·rename_i c hop;split at h
     ·cases h
     ·rename_i mb ps aC;split at h
      ·cases h
      ·rename_i xb s7;simp only[Option.some.injEq,Prod.mk.injEq]at h;obtain⟨rfl,rfl,b3⟩:=h;have kQ:=u;simp only[IP]at u;split at u
       ·cases u
       ·rename_i e0 h5 hm;refine A.weak (z8 hm) (A.seq (A.any _ es (jt++n::hQ) a1.mix Z (e7.app ?_)))
        have ajd:∀{K:ai→Y→Prop},K aA dF→e7 ⟨P,N,ids⟩ ops ⟨true,Bn ops.toList,es⟩ [] jt e0 h5 K:=λ{K} fz=>by
         have:=uu (N:=N) (K:=K) a1 u (by rw[b3,List.map_map];rfl) fz;rw[List.map_map,show((λx:Nat×Hint P=>x.1)∘λi=>(i,hintOf W i))=λi=>i from rfl,List.map_id']at this;exact this
        refine ajd λlog=>?_
        have en:=en.H7 (N:=N) (ids:=ids) (σ:=dF) (dB:=[]) [] hop aC s7 rfl rfl (Y.pR _) (λr σ2 aB=>by
         obtain⟨cF,cW⟩:=iP r σ2 aB;exact⟨cF,by rw[cW];rfl⟩) bP aa
        refine⟨o,aj,.inr (.inr (.inl ⟨by simp only[iE,bl],λ_=>List.contains_iff_mem.1 i5,[],[],_,en,λ_=>yq _ _ _,ai.pR _,λd Z=>(by cases Z),?_⟩))⟩;rintro bE az ⟨σ2,aB,rfl⟩;obtain⟨cF,cW⟩:=iP bE σ2 aB;subst cW;obtain⟨eA,dx,σ3,bU,cG⟩:=k bE [] aB;rw[show([]:Y)++dF.minus (Y.ids [])=dF from Ga dF];simp only[Qw,kQ,aj]at bU;split at bU
        ·cases bU
        ·rename_i e2 dO aiF jR;split at bU
         ·cases bU
         ·rename_i b6 zn;split at bU
          ·cases bU
          ·rename_i s3 qU;simp only[Option.some.injEq,Prod.mk.injEq]at bU;obtain⟨rfl,rfl,jG⟩:=bU;have:=GX (N:=N) (K:=λe s=>∃b6 s3,b8 ⟨P,N,ids⟩ e s b6 s3∧aY ⟨P,N,ids⟩ y Q b6 s3) (log:=log) a1 jR (by rw[jG,List.map_map];rfl) ⟨_,_,b8.of (C3 zn) (Y.oa qU).1,cG⟩;rw[List.map_map,show((λx:Nat×Hint P=>x.1)∘λi=>(i,hintOf eA i))=λi=>i from rfl,List.map_id']at this;refine e7.mono (λe s fz=>?_) this;obtain⟨anc,aoQ,g5,ng⟩:=fz;exact A.weak g5 ng
    ·cases h
end many
section made
variable {G:cq}{σ:Y}{o:Oper}{ev:Operand→U}
theorem TX(zs:List Value)(bJ:0<zs.length):∀n:Nat,(madeCells zs.toArray (n*zs.length)).toList=(List.replicate n zs).flatten
 |0=>by simp[madeCells]
 |n+1=>by
  have bD:=TX zs bJ n
  have e:∀m:Nat,(madeCells zs.toArray m).toList=(List.range m).map λi=>zs.toArray[i%zs.length]!:=λm=>by
   simp[madeCells,Array.toList_range]
  rw[e]at bD ⊢;rw[Nat.add_mul,Nat.one_mul,List.range_add,List.map_append,bD,List.replicate_succ',List.flatten_append,List.map_map];congr 1;simp only[List.flatten_cons,List.flatten_nil,List.append_nil];apply List.ext_getElem
  ·simp
  ·intro i h1 D;have hi:i<zs.length:=D;simp only[List.getElem_map,List.getElem_range,Function.comp];rw[Nat.mul_comm,Nat.mul_add_mod,Nat.mod_eq_of_lt hi];simp[hi]
theorem T8{I:bw}:∀{a b:List U} {ay v:List Value},b9 I a ay→b9 I b v→b9 I (a++b) (ay++v)
 |[],_,_,_,h,D=>by simp only[b9]at h;subst h;exact D
 |x::r,b,ay,v,h,D=>by
  simp only[b9]at h;obtain⟨y,bu,rfl,ak,bc⟩:=h;simp only[List.cons_append,b9];exact⟨y,_,rfl,ak,T8 bc D⟩
theorem en.VR{T E bytes sz d:Nat}{x y:Operand}{k eM:IntKind}{n:Int}{rL:List U}{zs:List Value}(h:o.op=.makeSlice T x y)(u:ev x=.int k n)(ah:ev y=.int eM n)(dR:jE G.P T E sz bytes)(fc:ku G.P T E sz zs)(aC:∀I,b9 I rL zs)(aJ:rL.length=sz)(jH:0<sz)(kA:sz≤64)(bJ:0≤n)(V:n≤4294967296)(pX:bytes≤65536)
  (hi:G.ids.contains d=false) (aa:σ.clean [d].contains=true):g8 G o ev σ [d] [d] (λr az=>r=.own d∧az=(d,.slice E sz (List.replicate n.toNat rL) 0 false)::σ):=by
 intro cx I β w aP aq hop;have h1:=hop x (by simp[h,Op.operands]);rw[u]at h1;have h1:=iH h1
 have D:=hop y (by simp[h,Op.operands]);rw[ah]at D;have D:=iH D
 obtain⟨i,z,hh,i6,iR,nC,ul⟩:=dR.info;obtain⟨yO,cF,cW⟩:=fc.zero w;have:=Uo hh i6 cF;subst this;have E4:=fc.al3;have B8:(i.bytes:Int)*n≤281474976710656:=by
  rw[nC];have h1:(bytes:Int)*n≤(65536:Int)*4294967296:=Int.mul_le_mul (by omega) V bJ (by omega);omega
 have ax:=run_make (P:=G.P) w T E i yO dR.gv hh i6 k eM n n bJ (Int.le_refl _) B8 (by omega);rw[iR,cW]at ax;have eX:(execOp aP o).run G.P w=.ok (.value (.slice (some ⟨w.heap.size,0,none⟩) n.toNat n.toNat)) (w.alloc (.cells (madeCells zs.toArray (n.toNat*sz)) E)):=by simp[execOp,h,h1,D,ax]
 rw[eX];have af:=aq.oS (dD:=[d]) (σ2:=σ) (env:=[]) ⟨λ_ _=>rfl,by simpa using hi,rfl,aa,λx u cT n h=>by have:=(Y.iu aa x _ h).1;rw[List.contains_iff_mem.2 u]at this;cases this⟩;have oA:g9 (gF β [d]) d (.slice (some ⟨w.heap.size,0,none⟩) n.toNat n.toNat) d=.slice (some ⟨w.heap.size,0,none⟩) n.toNat n.toNat:=g7 _ _ _;have V:∀y,y≠d→g9 (gF β [d]) d (.slice (some ⟨w.heap.size,0,none⟩) n.toNat n.toNat) y=β y:=λy ah=>by rw[gU _ _ ah];simp[gF,ah]
 refine⟨.own d,_,I,g9 (gF β [d]) d (.slice (some ⟨w.heap.size,0,none⟩) n.toNat n.toNat),⟨rfl,rfl⟩,?_,?_,b7.refl I,λy ah=>V y (by simpa using ah),λy ah=>by rw[Y.c4,if_neg (Ne.symm (by simpa using ah))]⟩
 ·simp only[ar,oA,iy,and_self]
 ·refine af.turn (d:=d) (gn.alloc w _) (.inl aq.size) (λx u=>by rw[Y.c4,if_neg (Ne.symm u)]) (λx u W e=>by
    obtain⟨aI,W⟩:=Option.isSome_iff_exists.1 W;exact absurd (af.qa W e) (by omega)) (b7.refl I) (λ_ _ _=>rfl) (λg4 dI lD=>by rw[aq.ic (Nat.le_refl _)]at lD;cases lD) (aq.ic (Nat.le_refl _) none)
   (λx u=>gU _ _ u) (.inl (by simpa using hi)) (g0.w6 (by simp[gF])) (.inl (by rw[oA];rfl)) λaI b3=>?_
  rw[Y.c4,if_pos rfl]at b3;cases b3;simp only[aU,oA];refine .inr (.inr ⟨w.heap.size,n.toNat,_,by rw[List.length_replicate],by rw[List.length_replicate];exact Nat.le_refl _,by simp[maxLen];omega,heap_alloc_new w _,by rw[size_madeCells],?_,λe he=>by rw[List.eq_of_mem_replicate he];exact aJ,Nat.zero_le _,by simp,λo _=>aq.ic (Nat.le_refl _) o,.inl aq.size⟩);have hm:=TX zs (by omega) n.toNat;rw[E4]at hm;rw[hm,List.length_replicate];have:∀m:Nat,b9 I (List.replicate m rL).flatten (List.replicate m zs).flatten:=by
   intro m;induction m with
   |zero=>simp[b9]
   |succ m bD=>
    simp only[List.replicate_succ,List.flatten_cons];exact T8 (aC I) bD
  rw[List.take_of_length_le]
  ·exact this _
  ·rw[List.length_flatten,List.map_replicate,List.sum_replicate_nat,E4];exact Nat.le_refl _
end made
section
variable {P:Program}
def D6{α:Type}(aV d E sz:Nat)(jv:α)(e:α→List U)(n:Int)(ids:List Nat)(op:Op)(env:ai)(σ:Y):Option (cA×cf):=match op with
 |.makeSlice T x y=>(match env.cz x with
  |some (.int _ hG)=>(match env.cz y with
   |some (.int _ iC)=>bif Nat.beq T aV&&!ids.contains d&&σ.clean [d].contains then some (.e [d] [d] (.own d) ((d,.slice E sz ((List.replicate n.toNat jv).map e) 0 false)::σ),([.int .i64 hG,.int .i64 iC],[]))else none
   |_=>none)
  |_=>none)
 |_=>none
theorem YL{α:Type}{aV E bytes sz d:Nat}{jv:α}{e:α→List U}{n:Int}{zs:List Value}(dR:jE P aV E sz bytes)(fc:ku P aV E sz zs)(aC:∀I,b9 I (e jv) zs)(aJ:(e jv).length=sz)(jH:0<sz)(kA:sz≤64)(bJ:0≤n)(V:n≤4294967296)(pX:bytes≤65536){o:Oper}{N:Nat}{ids:List Nat}{env:ai}{σ:Y}{s:cA}{aI:cf}
  (h:D6 aV d E sz jv e n ids o.op env σ=some (s,aI)) (he:aI=([.int .i64 n,.int .i64 n],[])):e1 ⟨P,N,ids⟩ o env σ s:=by
 cases aj:o.op<;>rw[aj]at h
 case makeSlice T x y=>
  simp only[D6]at h;split at h
  ·rename_i gK hG u;split at h
   ·rename_i dN iC ah;cases aa:(Nat.beq T aV&&!ids.contains d&&σ.clean [d].contains)with
    |false=>rw[aa]at h;cases h
    |true=>
     rw[aa]at h;simp only[Bool.and_eq_true,Bool.not_eq_true']at aa;obtain⟨⟨dJ,eL⟩,gQ⟩:=aa;have:=Nat.eq_of_beq_eq_true dJ;subst this;cases h;simp only[Prod.mk.injEq,List.cons.injEq,U.int.injEq,and_true,true_and]at he;obtain⟨rfl,rfl⟩:=he;rw[List.map_replicate];exact⟨en.VR aj (ai.b5 u) (ai.b5 ah) dR fc aC aJ jH kA bJ V pX eL gQ,by simp only[List.all_cons,List.all_nil,eL];rfl⟩
   ·cases h
  ·cases h
 all_goals (simp only[D6]at h;cases h)
def ahq{α:Type}{aV E bytes sz:Nat}{zs:List Value}(d:Nat)(jv:α)(e:α→List U)(n:Int)(dR:jE P aV E sz bytes)(fc:ku P aV E sz zs)(aC:∀I,b9 I (e jv) zs)(aJ:(e jv).length=sz)(jH:0<sz)(kA:sz≤64)(aT:(decide (0≤n)&&decide (n≤4294967296))=true)(pX:bytes≤65536):Hint P:=
 .gs true ([.int .i64 n,.int .i64 n],[]) (D6 aV d E sz jv e n) λ_ _ _ _ _ _ _ h he=>by
  simp only[Bool.and_eq_true,decide_eq_true_eq]at aT;exact YL dR fc aC aJ jH kA aT.1 aT.2 pX h he
end
theorem abe{P:Program}{bA α:Type}{cp clock i:Nat}{b4:bA→U}{es:Array MapEntry}{seen:Array Nat}{e:MapEntry}{n:bA}{v:α}{l:List (bA×α)}{enc:α→U}(hv:es[i]?=some e)(aJ:l[i]?=some (n,v)){o:Oper}{ids:List Nat}{σ:Y}{s:cA}
  (h:vn cp (.cD [b4 n,enc v]) o.op env σ=some (s,aI)) (he:aI=([.de (dz b4 enc l)],[(0,.ig es clock [] (seen.push e.born))])):e1 ⟨P,N,ids⟩ o env σ s:=by
 cases aj:o.op<;>rw[aj]at h
 case entry x=>
  simp only[vn]at h;split at h
  ·rename_i sV u;split at h
   ·rename_i gG c bx ajf Z;cases V:Nat.beq sV cp with
    |false=>rw[V]at h;cases h
    |true=>
     rw[V]at h;have:=Nat.eq_of_beq_eq_true V;subst this;cases h;simp only[Prod.mk.injEq,List.cons.injEq,U.de.injEq,cn.ig.injEq,and_true,true_and]at he;obtain⟨rfl,rfl,rfl,rfl⟩:=he;exact bG.abh l enc aj (ai.b5 u) Z hv aJ
   ·cases h
  ·cases h
 all_goals (simp only[vn]at h;cases h)
def ahX{P:Program}{bA α:Type}{es:Array MapEntry}{i:Nat}{e:MapEntry}{n:bA}{v:α}{l:List (bA×α)}(cp clock:Nat)(b4:bA→U)(seen:Array Nat)(enc:α→U)(hv:es[i]?=some e)(aJ:l[i]?=some (n,v)):Hint P:=
 .gs false ([.de (dz b4 enc l)],[(0,.ig es clock [] (seen.push e.born))]) (λ_=>vn cp (.cD [b4 n,enc v])) λ_ _ _ _ _ _ _ h he=>abe hv aJ h he
end Go.Proofs.YtmnbolcmepihlaaGreat
