/- Bound methods, and ug of what is no plain data, as the cells of an object; loops of a known number of rounds. No condition but bH bq stand in each. -/
import Derived.Test.YtjdopimopgpagaaGreatBA
import Derived.LoopN
namespace Go.Proofs.YtjdopimopgpagaaGreat
set_option linter.all false
open Go
variable {P:Program}{tb:Tb}
def mkE(op:Op)(env:Env):Option (Stp×Obs):=match op with
 |.makeFunc (.func f) first cap=>match first.toList with
  |[x]=>(match cap.toList with
   |[]=>(match env.evo x with
    |some (.ptr d 0)=>some (.y [] (.hnd (.jD f) d),([],[]))
    |_=>none)
   |_=>none)
  |_=>none
 |_=>none
variable {N:Nat}{env:Env}{o:Oper}{ob:Obs}{σ:Sto}
theorem aoG{ids:List Nat}{s:Stp}(h:mkE o.op env=some (s,ob)):gr ⟨P,N,ids⟩ o env σ s:=by
 unfold mkE at h
 split at h
 ·rename_i f first cap ho
  split at h
  ·rename_i x hf
   split at h
   ·rename_i hc
    split at h
    ·rename_i d hx
     cases h
     have e1:first=#[x]:=by simpa using congrArg List.toArray hf
     have e2:cap=#[]:=by simpa using congrArg List.toArray hc
     subst e1 e2
     refine Yields.pure λσ' cx I β w ρ hR hw hop=>?_
     have h1:=hop x (by simp[ho,Op.operands]);rw[Env.bB hx]at h1
     simp only[Rep]at h1
     obtain⟨b,h1,h2⟩:=h1
     exact⟨.func (.func f) #[ρ x] #[],by simp[execOp,ho,Instr.makeFunc],by simp only[Rep];exact⟨b,h1,by rw[h2];rfl⟩⟩
    ·cases h
   ·cases h
  ·cases h
 ·cases h
def hmk:Hint P:=.gs false ([],[]) (λ_ op env _=>mkE op env) λ_ _ _ _ _ _ _ h _=>aoG h
def ai8(tb:Tb)(op:Op)(env:Env):Option (Stp×Obs):=match op with
 |.call ⟨.builtin .len,args,ks⟩=>match args.toList with
  |[x]=>(match ks.toList with
   |[T]=>(match tb.get T with
    |some ⟨_,_,_,.slice _ _ _ _⟩=>(match env.evo x with
     |some (.hnd (.csl n) _)=>some (.y [] (.int .i64 (n:Int)),([],[]))
     |_=>none)
    |_=>none)
   |_=>none)
  |_=>none
 |_=>none
theorem amP(W:Wld P tb){ids:List Nat}{s:Stp}(h:ai8 tb o.op env=some (s,ob)):gr ⟨P,N,ids⟩ o env σ s:=by
 unfold ai8 at h
 split at h
 ·rename_i args ks ho
  split at h
  ·rename_i x hf
   split at h
   ·rename_i T hk
    split at h
    ·rename_i hT
     have hkd:=(fu.get W.tys hT).kd
     simp only[lZ]at hkd
     split at h
     ·rename_i n d hx
      cases h
      have e1:args=#[x]:=by simpa using congrArg List.toArray hf
      have e2:ks=#[T]:=by simpa using congrArg List.toArray hk
      subst e1 e2
      refine Yields.pure λσ' cx I β w ρ hR hw hop=>?_
      have h1:=hop x (by simp[ho,Op.operands,Call.operands]);rw[Env.bB hx]at h1
      simp only[Rep]at h1
      obtain⟨b,_,h2⟩:=h1
      have h2:ρ x=.slice (some ⟨b,0,none⟩) n n:=h2
      have e1:=run_underlying (P:=P) hkd.1.und
      exact⟨.int .i64 n,by simp[execOp,ho,resolve,invoke,builtin,Builtin.len_,h2,e1,goInt],by simp[Rep,bg]⟩
     ·cases h
    ·cases h
   ·cases h
  ·cases h
 ·cases h
def hlnC(W:Wld P tb):Hint P:=.gs false ([],[]) (λ_ op env _=>ai8 tb op env) λ_ _ _ _ _ _ _ h _=>amP W h
def ixC(tb:Tb)(op:Op)(env:Env):Option (Stp×Obs):=match op with
 |.indexAddr T x y=>match tb.get T with
  |some ⟨_,_,_,.slice _ sz _ _⟩=>(match env.evo x with
   |some (.hnd (.csl n) d)=>(match env.evo y with
    |some (.int _ i)=>bif decide (0≤i)&&decide (i<n)then some (.y [] (.ptr d (i.toNat*sz)),([],[]))else none
    |_=>none)
   |_=>none)
  |_=>none
 |_=>none
theorem aoH(W:Wld P tb){ids:List Nat}{s:Stp}(h:ixC tb o.op env=some (s,ob)):gr ⟨P,N,ids⟩ o env σ s:=by
 unfold ixC at h
 split at h
 ·rename_i T x y ho
  split at h
  ·rename_i sz1 ag1 zs1 E1 sz2 by2 zs2 hT
   have hkd:=(fu.get W.tys hT).kd
   simp only[lZ]at hkd
   split at h
   ·rename_i n d hx
    split at h
    ·rename_i k i hy
     generalize hb:(decide (0≤i)&&_)=bb at h
     cases bb with
     |false=>cases h
     |true=>
      simp only[Bool.and_eq_true,decide_eq_true_eq]at hb
      cases h
      refine Yields.pure λσ' cx I β w ρ hR hw hop=>?_
      have h1:=hop x (by simp[ho,Op.operands]);rw[Env.bB hx]at h1
      have h2:=hop y (by simp[ho,Op.operands]);rw[Env.bB hy]at h2;have h2:=fq h2
      simp only[Rep]at h1
      obtain⟨b,hb1,h3⟩:=h1
      have h3:ρ x=.slice (some ⟨b,0,none⟩) n n:=h3
      have e1:=run_underlying (P:=P) hkd.1.und
      exact⟨.pointer (some ⟨b,i.toNat*sz2,none⟩),by simp[execOp,ho,h2,h3,Instr.indexAt,asIntOf,e1,hb,hkd.1.size,ff],by simp only[Rep];exact⟨b,hb1,rfl⟩⟩
    ·cases h
   ·cases h
  ·cases h
 ·cases h
def ai9(W:Wld P tb):Hint P:=.gs false ([],[]) (λ_ op env _=>ixC tb op env) λ_ _ _ _ _ _ _ h _=>aoH W h
variable {G:Gl}{d:Nat}
theorem Y.agw{ev:Operand→AV}{T E sz len:Nat}{parts:Array (Nat×Operand)}{zs:List Value}{xs:List (List AV)}(h:o.op=.buildSlice T len parts)(hT:pJ G.P T E sz zs)(hl:parts.size=len)(hs:len*sz≤65536∧len≤65536)
  (hf:pe sz 0 (parts.toList.map λp=>(p.1,ev p.2))=some xs) (hr:nM (Nat.beq d) xs.flatten=false) (hi:G.ids.contains d=false):Yields G o ev ((d,.cells E xs.flatten)::σ) [d] [d] (.hnd (.csl len) d):=by
 intro σ' cx I β w ρ hR hw hm hop
 have h1:∀p∈parts.toList,Rep I β (ev p.2) (ρ p.2):=λp hp=>hop p.2 (by simp only[h,Op.operands];simpa using ⟨p.1,by simpa using hp⟩)
 obtain⟨z,hz1,hz2⟩:=hT.zero w
 let L:Array Value:=(Array.range (len*sz)).map ((if len*sz=0 then #[]else z.cells)[·%(if len*sz=0 then #[]else z.cells:Array Value).size]!)
 have hLs:L.size=len*sz:=by simp[L]
 obtain⟨r,us,r1,r2,r3,r4,r5,r6⟩:=tX (I:=I) (β:=β) sz (parts.toList.map λp=>(p.1,ev p.2)) (parts.toList.map λp=>(p.1,ρ p.2)) 0 L xs
  ⟨by simp,λj p q hj hq=>by
   simp only[List.getElem?_map]at hj hq
   cases hx:parts.toList[j]? with
   |none=>rw[hx]at hj;cases hj
   |some y=>
    rw[hx]at hj hq
    simp only[Option.map_some,Option.some.injEq]at hj hq
    subst hj hq
    exact⟨rfl,h1 y (List.mem_of_getElem? hx)⟩⟩ hf (by simp[hLs,hl])
 have hru:r.toList=us:=by
  rw[r3]
  have e0:L.toList.drop ((0+(parts.toList.map λp=>(p.1,ev p.2)).length)*sz)=[]:=List.drop_of_length_le (by simp[hLs,hl])
  rw[e0];simp
 have hrun:(execOp ρ o).run G.P w=.ok (.value (.slice (some ⟨w.heap.size,0,none⟩) len len)) (w.alloc (.cells r E)):=by
  have hlim:¬(len*sz>2 ^ 24):=by have:(2:Nat) ^ 24=16777216:=by decide
                                 omega
  have mN:Instr.fill (λi=>some (i*sz,sz)) L (parts.map λ(i,x)=>(i,ρ x)).toList=some r:=by simpa using r1
  simp only[execOp,h,Instr.buildSlice,Sem.run_bind,run_underlying hT.und,hT.size,Result.andThen_ok,hlim,if_false]
  by_cases h0:len*sz=0
  ·have hL0:L=(Array.range (len*sz)).map ((#[]:Array Value)[·%(#[]:Array Value).size]!):=by simp only[L,h0,if_true]
   rw[hL0]at mN
   simp only[h0,if_true,Sem.run_bind,Sem.run_pure,Result.andThen_ok]at mN ⊢
   simp only[mN]
   simp[newRow]
  ·have hL0:L=(Array.range (len*sz)).map (z.cells[·%z.cells.size]!):=by simp only[L,h0,if_false]
   rw[hL0]at mN
   simp only[h0,if_false,Sem.run_bind,hz1,Sem.run_pure,Result.andThen_ok]
   simp only[mN]
   simp[newRow]
 rw[hrun]
 have hβ:=hm d (by simp)
 refine⟨I,jN β d (.pointer (some ⟨w.heap.size,0,none⟩)),by simp only[Rep];exact⟨w.heap.size,by rw[cC];rfl,rfl⟩,?_,bT.refl I,λx hx=>eA β _ (λe=>hx (by simp[e]))⟩
 refine hw.real (by simpa using hi) hβ rfl λob hob=>?_
 rw[hR d (by simp),Sto.bz,if_pos rfl]at hob
 injection hob with hob
 subst hob
 simp only[aS,cC]
 refine .inr ⟨w.heap.size,r,rfl,heap_alloc_new w _,?_,λo=>hw.eX (Nat.le_refl _) o,.inl hw.size⟩
 rw[hru]
 exact lS (bT.refl I) (HLe.upd hβ) _ _ r4
def bsC(tb:Tb)(d:Nat)(ids:List Nat)(op:Op)(env:Env):Option (Stp×Obs):=match op with
 |.buildSlice T len parts=>match tb.get T with
  |some ⟨_,_,_,.slice E sz _ _⟩=>bif Nat.beq parts.size len&&(Nat.ble (len*sz) 65536&&Nat.ble len 65536)&&!ids.contains d then(match env.vr parts.toList with
   |none=>none
   |some ps=>match oA sz 0 ps with
    |none=>none
    |some xs=>bif !nM (Nat.beq d) xs.flatten then some (.v d (.cells E xs.flatten) (.hnd (.csl len) d),([],[]))else none)else none
  |_=>none
 |_=>none
theorem aoI(W:Wld P tb){ids:List Nat}{s:Stp}(h:bsC tb d ids o.op env=some (s,ob)):gr ⟨P,N,ids⟩ o env σ s:=by
 unfold bsC at h
 split at h
 ·rename_i T len parts ho
  split at h
  ·rename_i hT
   have hk:=(fu.get W.tys hT).kd
   simp only[lZ]at hk
   generalize hb:(Nat.beq parts.size len&&_&&_)=bb at h
   cases bb with
   |false=>cases h
   |true=>
    simp only[cond_true]at h
    rw[Bool.and_eq_true,Bool.and_eq_true]at hb
    split at h
    ·cases h
    ·rename_i ps hp
     split at h
     ·cases h
     ·rename_i xs hf
      cases hc:nM (Nat.beq d) xs.flatten with
      |true=>rw[hc]at h;cases h
      |false=>
       rw[hc]at h;cases h
       have hi:ids.contains d=false:=by simpa using hb.2
       exact⟨hi,Y.agw (G:=⟨P,N,ids⟩) ho hk.2.2 (by simpa using hb.1.1) (by simpa using hb.1.2) (by rw[Env.vf hp];exact qU _ hf) hc hi⟩
  ·cases h
 ·cases h
def hbsC(W:Wld P tb)(d:Nat):Hint P:=.gs false ([],[]) (λids op env _=>bsC tb d ids op env) λ_ _ _ _ _ _ _ h _=>aoI W h
variable {d0:Nat}{f:FuncId}{σc:Sto}
theorem D.asf{ev:Operand→AV}{fo:Operand}{k:Array TypeId}{Post:AV→Sto→Prop}(news:List Nat)(h:o.op=.call ⟨.value fo,#[],k⟩)(hf:ev fo=.hnd (.jD f) d0)
  (lJ:∀(args:Array Value) (w:World),(callFunc f args).run G.P w=.ok (.enter f args) w) (hs:∀p∈σc,σ.get p.1=some p.2)
  (hro:bM G.P f σc [.ptr d0 0] Post) (hn:news.all (λd=>!G.ids.contains d&&(σ.get d).isNone)=true) (hcl:(σ.minus σc.ids).clean news.contains=true)
  (hok:∀r σ2,Post r σ2→r.refs (λd=>!(σc.ids++news).contains d)=false∧σ2.clean (λd=>!(σc.ids++news).contains d)=true) :
  kX G o ev σ (σc.ids++news) news (λr σ'=>∃σ2,Post r σ2∧σ'=σ2++σ.minus σc.ids):=by
 intro cx I β w ρ hw hop
 have hf1:=hop fo (by simp[h,Op.operands,Call.operands])
 rw[hf]at hf1
 simp only[Rep]at hf1
 obtain⟨b,hb,hf1⟩:=hf1
 have hf1:ρ fo=.func (.func f) #[.pointer (some ⟨b,0,none⟩)] #[]:=hf1
 have hrun:(execOp ρ o).run G.P w=.ok (.enter f #[.pointer (some ⟨b,0,none⟩)]) w:=by
  simp[execOp,h,resolve,hf1,Deferred.ofValue,invoke,lJ]
 rw[hrun]
 have nS:bI I β [.ptr d0 0] [.pointer (some ⟨b,0,none⟩)]:=by
  simp only[bI,Rep];exact⟨_,_,rfl,⟨b,hb,rfl⟩,rfl⟩
 have hin:=hw.uH (P:=G.P) hs
 have hn':∀d∈news,d∉G.ids∧σ.get d=none:=λd hd=>by
  have:=List.all_eq_true.1 hn d hd
  simpa using this
 refine Calls.mono (hro _ w I β _ hin nS) ?_
 rintro e w' ⟨v,he,r,σ2,I',β',hp,jg,hw'⟩
 obtain⟨k1,k2⟩:=hok r σ2 hp
 obtain⟨h1,h2,h3⟩:=hw.after hs hw' news hn' hcl k2
 refine⟨v,he,r,_,I',_,⟨σ2,hp,rfl⟩,h3 r v k1 jg,h1,h2,λd hd=>by simp[hd],λd hd=>?_⟩
 have hd:d∉σc.ids∧d∉news:=by simpa using hd
 rw[Sto.mO,Sto.eP,if_neg hd.1]
 cases h2:σ2.get d with
 |some o'=>
  have:=(Sto.dQ k2 d o' h2).1
  have:(σc.ids++news).contains d=true:=by rw[←Bool.not_eq_false'];exact this
  exact absurd (List.mem_append.1 (List.contains_iff_mem.1 this)) (by simp[hd.1,hd.2])
 |none=>rfl
def dmE(σc:Sto)(news:List Nat)(r:AV)(σ2:Sto)(ids:List Nat)(op:Op)(env:Env)(σ:Sto):Option (Stp×Obs):=match op with
 |.call c=>match c.callee with
  |.value fo=>(match c.args.toList with
   |[]=>(match env.evo fo with
    |some (.hnd (.jD f) d)=>(match σ.at σc.ids with
     |none=>none
     |some aei=>bif news.all (λd=>!ids.contains d&&(σ.get d).isNone)&&(σ.minus σc.ids).clean news.contains&&!r.refs (λd=>!(σc.ids++news).contains d)&&σ2.clean (λd=>!(σc.ids++news).contains d)then
      some (.e (σc.ids++news) news r (σ2++σ.minus σc.ids),([.fn f [],.ptr d 0],aei))else none)
    |_=>none)
   |_=>none)
  |_=>none
 |_=>none
theorem aoJ{news:List Nat}{σ2:Sto}{r:AV}(pf:bM P f σc [.ptr d0 0] (λa σ'=>a=r∧σ'=σ2))(hc:aT P f){ids:List Nat}{s:Stp}
  (h:dmE σc news r σ2 ids o.op env σ=some (s,ob)) (he:ob=([.fn f [],.ptr d0 0],σc)):gr ⟨P,N,ids⟩ o env σ s:=by
 unfold dmE at h
 split at h
 ·rename_i c ho
  obtain⟨cl,args,k⟩:=c
  split at h
  ·rename_i fo hfo
   split at h
   ·rename_i hargs
    split at h
    ·rename_i f' d' hx
     split at h
     ·cases h
     ·rename_i aei hat
      generalize hb:(news.all _&&_&&_&&_)=bb at h
      cases bb with
      |false=>cases h
      |true=>
       simp only[Bool.and_eq_true,Bool.not_eq_true']at hb
       obtain⟨⟨⟨b1,b2⟩,b3⟩,b4⟩:=hb
       cases h
       simp only[Prod.mk.injEq,List.cons.injEq,AV.fn.injEq,AV.ptr.injEq,and_true]at he
       obtain⟨⟨rfl,rfl⟩,rfl⟩:=he
       have e1:args=#[]:=by simpa using congrArg List.toArray hargs
       have e2:cl=.value fo:=hfo
       subst e1 e2
       refine⟨?_,by rw[List.all_eq_true]at b1 ⊢;exact λd hd=>((Bool.and_eq_true _ _).mp (b1 d hd)).1⟩
       have hD:=D.asf (G:=⟨P,N,ids⟩) (σ:=σ) news ho (Env.bB hx) hc.h (Sto.oR hat).1.mem pf b1 b2 (λr' aiZ hh=>by obtain⟨rfl,rfl⟩:=hh;exact⟨b3,b4⟩)
       exact hD.mono λa s ⟨aiZ,⟨h1,h2⟩,h3⟩=>⟨h1,by rw[h3,h2]⟩
    ·cases h
   ·cases h
  ·cases h
 ·cases h
def hdm(news:List Nat){f:FuncId}{d0:Nat}{σc:Sto}{r:AV}{σ2:Sto}(pf:bM P f σc [.ptr d0 0] (λa σ'=>a=r∧σ'=σ2))(hc:aT P f):Hint P:=
 .gs true ([.fn f [],.ptr d0 0],σc) (dmE σc news r σ2) λ_ _ _ _ _ _ _ h he=>aoJ pf hc h he
def rZ(G:Gl)(c:Code)(Q:Exit→Env→Sto→Prop):Nat→Env→Sto→Prop
 |0,_,_=>False
 |n+1,env,σ=>ay G c (tW (rZ G c Q n) Q) env σ
variable {Q:Exit→Env→Sto→Prop}{c:Code}
theorem A.rnd{n:Nat}(h:ay G c (tW (rZ G c Q n) Q) env σ):rZ G c Q (n+1) env σ:=h
theorem A.aoK(n:Nat)(h:rZ G c Q n env σ):ay G (.loop c) Q env σ:=by
 refine ay.of λcx a w hr=>?_
 refine wp_loop_rounds n ?_
 have key:∀n env σ a w,rZ G c Q n env σ→qJ G cx env σ a w→Code.rounds G.P c (λe a' w'=>∃env' σ',qJ G cx env' σ' a' w'∧Q e env' σ') n a w:=by
  intro n
  induction n with
  |zero=>intro env σ a w h _;exact h.elim
  |succ n ih=>
   intro env σ a w h hr
   rw[rounds_succ]
   refine wp_mono (ay.use h cx a w hr) ?_
   rintro e a' w' ⟨env',σ',hr',hq⟩
   cases e with
   |normal=>exact ih _ _ _ _ hq hr'
   |exit id=>exact⟨env',σ',hr',hq⟩
   |goto l=>exact⟨env',σ',hr',hq⟩
   |ret=>exact⟨env',σ',hr',hq⟩
   |panic ch=>exact⟨env',σ',hr',hq⟩
   |outgrown=>exact⟨env',σ',hr',hq⟩
 exact key n env σ a w h hr
end Go.Proofs.YtjdopimopgpagaaGreat
