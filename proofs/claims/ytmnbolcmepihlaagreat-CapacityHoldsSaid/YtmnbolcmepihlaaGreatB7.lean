/- al9 aok, and slices of dS is no plain Jm, as aR cells of hg oU; SZ of a pt FO of K9. bM bN cu cg bz cv in ck. -/
import Derived.Test.YtmnbolcmepihlaaGreatBA
import Derived.LoopN
namespace Go.Proofs.YtmnbolcmepihlaaGreat
set_option linter.all false
open Go
variable {P:Program}{bH:gC}
def KI(op:Op)(env:ai):Option (cA×cf):=match op with
 |.makeFunc (.func f) first aF=>match first.toList with
  |[x]=>(match aF.toList with
   |[]=>(match env.cz x with
    |some (.ptr d 0)=>some (.y [] (.fm (.Iv f) d),([],[]))
    |_=>none)
   |_=>none)
  |_=>none
 |_=>none
variable {N:Nat}{aI:cf}{env:ai}{o:Oper}{σ:Y}
theorem aaO{ids:List Nat}{s:cA}(h:KI o.op env=some (s,aI)):e1 ⟨P,N,ids⟩ o env σ s:=by
 unfold KI at h;split at h
 ·rename_i f first aF aj;split at h
  ·rename_i x be;split at h
   ·rename_i aa;split at h
    ·rename_i d u;cases h;have aA:first=#[x]:=by simpa using congrArg List.toArray be
     have e2:aF=#[]:=by simpa using congrArg List.toArray aa
     subst aA e2;refine Yields.pure λaz cx I β w aP b2 aq hop=>?_;have h1:=hop x (by simp[aj,Op.operands]);rw[ai.b5 u]at h1
     simp only[ar,mO.rep]at h1;obtain⟨b,h1,D⟩:=h1;exact⟨.func (.func f) #[aP x] #[],by simp[execOp,aj,Instr.makeFunc],by simp only[ar,mO.rep];exact⟨b,h1,by rw[D]⟩⟩
    ·cases h
   ·cases h
  ·cases h
 ·cases h
def JZ:Hint P:=.gs false ([],[]) (λ_ op env _=>KI op env) λ_ _ _ _ _ _ _ h _=>aaO h
variable {d:Nat}
theorem bG.VV{G:cq}{ev:Operand→U}{T E sz len:Nat}{parts:Array (Nat×Operand)}{zs:List Value}{xs:List (List U)}(h:o.op=.buildSlice T len parts)(aH:ku G.P T E sz zs)(aJ:parts.size=len)(W:len*sz≤65536∧len≤65536)
  (be:tf sz 0 (parts.toList.map λp=>(p.1,ev p.2))=some xs) (ax:nE (Nat.beq d) xs.flatten=false) (hi:G.ids.contains d=false):Yields G o ev ((d,.cells E xs.flatten)::σ) [d] [d] (.fm (.y2 len) d):=by
 intro az cx I β w aP b2 aq hm hop;have h1:∀p∈parts.toList,ar I β (ev p.2) (aP p.2):=λp aB=>hop p.2 (by simp only[h,Op.operands];simpa using ⟨p.1,by simpa using aB⟩);obtain⟨z,i6,iR⟩:=aH.zero w
 let L:Array Value:=(Array.range (len*sz)).map ((if len*sz=0 then #[]else z.cells)[·%(if len*sz=0 then #[]else z.cells:Array Value).size]!)
 have vz:L.size=len*sz:=by simp[L]
 obtain⟨r,bF,hr,hl,oZ,pK,wL,uS⟩:=FQ (I:=I) (β:=β) sz (parts.toList.map λp=>(p.1,ev p.2)) (parts.toList.map λp=>(p.1,aP p.2)) 0 L xs
  ⟨by simp,λj p q aM bR=>by
   simp only[List.getElem?_map]at aM bR;cases u:parts.toList[j]? with
   |none=>rw[u]at aM;cases aM
   |some y=>
    rw[u]at aM bR;simp only[Option.map_some,Option.some.injEq]at aM bR;subst aM bR;exact⟨rfl,h1 y (List.mem_of_getElem? u)⟩⟩ be (by simp[vz,aJ])
 have zA:r.toList=bF:=by
  rw[oZ];have e0:L.toList.drop ((0+(parts.toList.map λp=>(p.1,ev p.2)).length)*sz)=[]:=List.drop_of_length_le (by simp[vz,aJ]);rw[e0];simp
 have eX:(execOp aP o).run G.P w=.ok (.value (.slice (some ⟨w.heap.size,0,none⟩) len len)) (w.alloc (.cells r E)):=by
  have B5:¬(len*sz>2 ^ 24):=by have:(2:Nat) ^ 24=16777216:=by decide
                               omega
  have nF:Instr.fill (λi=>some (i*sz,sz)) L (parts.map λ(i,x)=>(i,aP x)).toList=some r:=by simpa using hr
  simp only[execOp,h,Instr.buildSlice,Sem.run_bind,run_underlying aH.gv,aH.size,Result.andThen_ok,B5,if_false];by_cases bJ:len*sz=0
  ·have rZ:L=(Array.range (len*sz)).map ((#[]:Array Value)[·%(#[]:Array Value).size]!):=by simp only[L,bJ,if_true]
   rw[rZ]at nF;simp only[bJ,if_true,Sem.run_bind,Sem.run_pure,Result.andThen_ok]at nF ⊢;simp only[nF];simp[newRow]
  ·have rZ:L=(Array.range (len*sz)).map (z.cells[·%z.cells.size]!):=by simp only[L,bJ,if_false]
   rw[rZ]at nF;simp only[bJ,if_false,Sem.run_bind,i6,Sem.run_pure,Result.andThen_ok];simp only[nF];simp[newRow]
 rw[eX];have k2:=hm d (by simp);refine⟨I,g9 β d (.pointer (some ⟨w.heap.size,0,none⟩)),by simp only[ar,mO.rep];exact⟨w.heap.size,by rw[g7];rfl,rfl⟩,?_,b7.refl I,λx u=>gU β _ (λe=>u (by simp[e]))⟩;refine aq.real (by simpa using hi) k2 rfl λaI b3=>?_;rw[b2 d (by simp),Y.c4,if_pos rfl]at b3;injection b3 with b3
 subst b3;simp only[aU,g7];refine .inr ⟨w.heap.size,r,rfl,heap_alloc_new w _,?_,λo=>aq.ic (Nat.le_refl _) o,.inl aq.size⟩;rw[zA];exact rT (b7.refl I) (g0.w6 k2) _ _ pK
def Je(bH:gC)(d:Nat)(ids:List Nat)(op:Op)(env:ai):Option (cA×cf):=match op with
 |.buildSlice T len parts=>match bH.get T with
  |some ⟨_,_,_,.slice E sz _ _⟩=>bif Nat.beq parts.size len&&(Nat.ble (len*sz) 65536&&Nat.ble len 65536)&&!ids.contains d then(match env.rA parts.toList with
   |none=>none
   |some ps=>match ur sz 0 ps with
    |none=>none
    |some xs=>bif !nE (Nat.beq d) xs.flatten then some (.v d (.cells E xs.flatten) (.fm (.y2 len) d),([],[]))else none)else none
  |_=>none
 |_=>none
theorem aaP(a1:ji P bH){ids:List Nat}{s:cA}(h:Je bH d ids o.op env=some (s,aI)):e1 ⟨P,N,ids⟩ o env σ s:=by
 unfold Je at h;split at h
 ·rename_i T len parts aj;split at h
  ·rename_i aH;have hk:=(jf.get a1.tys aH).kd;simp only[l0]at hk;generalize V:(Nat.beq parts.size len&&_&&_)=dY at h;cases dY with
   |false=>cases h
   |true=>
    simp only[cond_true]at h;rw[Bool.and_eq_true,Bool.and_eq_true]at V;split at h
    ·cases h
    ·rename_i ps aB;split at h
     ·cases h
     ·rename_i xs be;cases aa:nE (Nat.beq d) xs.flatten with
      |true=>rw[aa]at h;cases h
      |false=>
       rw[aa]at h;cases h
       have hi:ids.contains d=false:=by simpa using V.2
       exact⟨hi,bG.VV (G:=⟨P,N,ids⟩) aj hk.2.2 (by simpa using V.1.1) (by simpa using V.1.2) (by rw[ai.z7 aB];exact CJ _ be) aa hi⟩
  ·cases h
 ·cases h
def Qp(a1:ji P bH)(d:Nat):Hint P:=.gs false ([],[]) (λids op env _=>Je bH d ids op env) λ_ _ _ _ _ _ _ h _=>aaP a1 h
end Go.Proofs.YtmnbolcmepihlaaGreat
