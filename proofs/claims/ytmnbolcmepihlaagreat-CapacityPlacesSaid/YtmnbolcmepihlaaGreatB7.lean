/- Bound methods, and slices of what is no plain data, as the cells of an object; loops of a known number of rounds. No condition but bf aM stand in each. -/
import Derived.Test.YtmnbolcmepihlaaGreatBA
import Derived.LoopN
namespace Go.Proofs.YtmnbolcmepihlaaGreat
set_option linter.all false
open Go
variable {P:Program}{tb:Tb}
variable {G:Gl}{d:Nat}{o:Oper}{σ:Sto}
theorem Y.aeL{ev:Operand→AV}{T E sz len:Nat}{parts:Array (Nat×Operand)}{zs:List Value}{xs:List (List AV)}(h:o.op=.buildSlice T len parts)(hT:iP G.P T E sz zs)(hl:parts.size=len)(hs:len*sz≤65536∧len≤65536)
  (hf:mS sz 0 (parts.toList.map λp=>(p.1,ev p.2))=some xs) (hr:jX (Nat.beq d) xs.flatten=false) (hi:G.ids.contains d=false):Yields G o ev ((d,.cells E xs.flatten)::σ) [d] [d] (.hnd (.csl len) d):=by
 intro σ' cx I β w ρ hR hw hm hop;have h1:∀p∈parts.toList,Rep I β (ev p.2) (ρ p.2):=λp hp=>hop p.2 (by simp only[h,Op.operands];simpa using ⟨p.1,by simpa using hp⟩);obtain⟨z,hz1,hz2⟩:=hT.zero w
 let L:Array Value:=(Array.range (len*sz)).map ((if len*sz=0 then #[]else z.cells)[·%(if len*sz=0 then #[]else z.cells:Array Value).size]!)
 have hLs:L.size=len*sz:=by simp[L]
 obtain⟨r,us,r1,r2,r3,r4,r5,r6⟩:=qz (I:=I) (β:=β) sz (parts.toList.map λp=>(p.1,ev p.2)) (parts.toList.map λp=>(p.1,ρ p.2)) 0 L xs
  ⟨by simp,λj p q hj hq=>by
   simp only[List.getElem?_map]at hj hq;cases hx:parts.toList[j]? with
   |none=>rw[hx]at hj;cases hj
   |some y=>
    rw[hx]at hj hq;simp only[Option.map_some,Option.some.injEq]at hj hq;subst hj hq;exact⟨rfl,h1 y (List.mem_of_getElem? hx)⟩⟩ hf (by simp[hLs,hl])
 have hru:r.toList=us:=by
  rw[r3];have e0:L.toList.drop ((0+(parts.toList.map λp=>(p.1,ev p.2)).length)*sz)=[]:=List.drop_of_length_le (by simp[hLs,hl]);rw[e0];simp
 have hrun:(execOp ρ o).run G.P w=.ok (.value (.slice (some ⟨w.heap.size,0,none⟩) len len)) (w.alloc (.cells r E)):=by
  have hlim:¬(len*sz>2 ^ 24):=by have:(2:Nat) ^ 24=16777216:=by decide
                                 omega
  have j9:Instr.fill (λi=>some (i*sz,sz)) L (parts.map λ(i,x)=>(i,ρ x)).toList=some r:=by simpa using r1
  simp only[execOp,h,Instr.buildSlice,Sem.run_bind,run_underlying hT.und,hT.size,Result.andThen_ok,hlim,if_false];by_cases h0:len*sz=0
  ·have hL0:L=(Array.range (len*sz)).map ((#[]:Array Value)[·%(#[]:Array Value).size]!):=by simp only[L,h0,if_true]
   rw[hL0]at j9;simp only[h0,if_true,Sem.run_bind,Sem.run_pure,Result.andThen_ok]at j9 ⊢;simp only[j9];simp[newRow]
  ·have hL0:L=(Array.range (len*sz)).map (z.cells[·%z.cells.size]!):=by simp only[L,h0,if_false]
   rw[hL0]at j9;simp only[h0,if_false,Sem.run_bind,hz1,Sem.run_pure,Result.andThen_ok];simp only[j9];simp[newRow]
 rw[hrun];have hβ:=hm d (by simp);refine⟨I,en β d (.pointer (some ⟨w.heap.size,0,none⟩)),by simp only[Rep,Hk.rep];exact⟨w.heap.size,by rw[bO];rfl,rfl⟩,?_,aQ.refl I,λx hx=>cc β _ (λe=>hx (by simp[e]))⟩;refine hw.real (by simpa using hi) hβ rfl λob hob=>?_;rw[hR d (by simp),Sto.aK,if_pos rfl]at hob;injection hob with hob
 subst hob;simp only[aj,bO];refine .inr ⟨w.heap.size,r,rfl,heap_alloc_new w _,?_,λo=>hw.ct (Nat.le_refl _) o,.inl hw.size⟩;rw[hru];exact iN (aQ.refl I) (HLe.upd hβ) _ _ r4
def bsC(tb:Tb)(d:Nat)(ids:List Nat)(op:Op)(env:Env):Option (Stp×Obs):=match op with
 |.buildSlice T len parts=>match tb.get T with
  |some ⟨_,_,_,.slice E sz _ _⟩=>bif Nat.beq parts.size len&&(Nat.ble (len*sz) 65536&&Nat.ble len 65536)&&!ids.contains d then(match env.ru parts.toList with
   |none=>none
   |some ps=>match mc sz 0 ps with
    |none=>none
    |some xs=>bif !jX (Nat.beq d) xs.flatten then some (.v d (.cells E xs.flatten) (.hnd (.csl len) d),([],[]))else none)else none
  |_=>none
 |_=>none
variable {env:Env}
theorem anB(W:Wld P tb){N:Nat}{ids:List Nat}{s:Stp}{ob:Obs}(h:bsC tb d ids o.op env=some (s,ob)):cz ⟨P,N,ids⟩ o env σ s:=by
 unfold bsC at h;split at h
 ·rename_i T len parts ho;split at h
  ·rename_i hT;have hk:=(fm.get W.tys hT).kd;simp only[kV]at hk;generalize hb:(Nat.beq parts.size len&&_&&_)=bb at h;cases bb with
   |false=>cases h
   |true=>
    simp only[cond_true]at h;rw[Bool.and_eq_true,Bool.and_eq_true]at hb;split at h
    ·cases h
    ·rename_i ps hp;split at h
     ·cases h
     ·rename_i xs hf;cases hc:jX (Nat.beq d) xs.flatten with
      |true=>rw[hc]at h;cases h
      |false=>
       rw[hc]at h;cases h
       have hi:ids.contains d=false:=by simpa using hb.2
       exact⟨hi,Y.aeL (G:=⟨P,N,ids⟩) ho hk.2.2 (by simpa using hb.1.1) (by simpa using hb.1.2) (by rw[Env.si hp];exact n9 _ hf) hc hi⟩
  ·cases h
 ·cases h
def anC(W:Wld P tb)(d:Nat):Hint P:=.gs false ([],[]) (λids op env _=>bsC tb d ids op env) λ_ _ _ _ _ _ _ h _=>anB W h
def aaz(G:Gl)(c:Code)(Q:Exit→Env→Sto→Prop):Nat→Env→Sto→Prop
 |0,_,_=>False
 |n+1,env,σ=>af G c (l8 (aaz G c Q n) Q) env σ
theorem A.rnd{c:Code}{Q:Exit→Env→Sto→Prop}{n:Nat}(h:af G c (l8 (aaz G c Q n) Q) env σ):aaz G c Q (n+1) env σ:=h
end Go.Proofs.YtmnbolcmepihlaaGreat
