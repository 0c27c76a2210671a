/- A am6 amD to hg entry of a map bz tq tX new, in a region oL oV is free. bM bN cu cg bz cv in ck. -/
import Derived.OrdersHeld
import Derived.Test.YtmnbolcmepihlaaGreatV4
import Derived.Test.YtmnbolcmepihlaaGreatWH
namespace Go.Proofs.YtmnbolcmepihlaaGreat
set_option linter.all false
open Go Go.Proofs.Tryz
section late
variable {P:Program}{ops:Array Oper}{Q:Exit→Act→World→Prop}{md:Region.Mode}{S:World→Prop}{z:Nat}
def sE(P:Program)(md:Region.Mode)(ops:Array Oper)(Q:Exit→Act→World→Prop)(S:World→Prop)(z:Nat):Nat→Array Bool→Act→World→Prop
 |0,dG,a,w=>Region.ready md ops dG=[]∧Q .normal a w
 |fuel+1,dG,a,w=>(Region.ready md ops dG=[]→Q .normal a w)∧∀i∈Region.ready md ops dG,wpOp P ops Q i (λe8 w'=>(i=z∨S w')∧sE P md ops Q S z fuel (dG.setIfInBounds i true) e8 w') a w
theorem T2:∀(fuel:Nat) (dG:Array Bool) (a:Act) (w:World),sE P md ops Q S z fuel dG a w→wpAny P md ops Q fuel dG a w
 |0,_,_,_,h=>h
 |fuel+1,_,_,_,h=>⟨h.1,λi hi=>wpOp_mono (λe8 w' dc=>T2 fuel _ e8 w' dc.2) (h.2 i hi)⟩
theorem VO{i:Nat}{gL uH:Oper}{v:Value}(hi:ops[i]?=some gL)(hz:ops[z]?=some uH)(E3:∃e∈uH.after,Region.binds md e=true∧e.on=i)(Sy:∀(j:Nat) (o:Oper) cs b,ops[j]?=some o→o.op≠.select cs b)
  (xH:∀c a w,Q (.panic c) (a.put gL.dst v) w→Q (.panic c) a w) :
  ∀(fuel:Nat) (dG:Array Bool) (a:Act) (w:World),
   (∀j dK,ops[j]?=some dK→j≠i→dG.getD j true=false→(∀e∈dK.after,Region.binds md e=true→e.on≠i)→gL.apart ops dK=true)→
   i∈Region.ready md ops dG→YieldsIf P ops S gL v a→S w→
   sE P md ops Q S z fuel (dG.setIfInBounds i true) (a.put gL.dst v) w→sE P md ops Q S z (fuel+1) dG a w:=by
 have Mk:∀{dG:Array Bool} {j:Nat} {dK:Oper},i∈Region.ready md ops dG→ops[j]?=some dK→j∈Region.ready md ops dG→∀e∈dK.after,Region.binds md e=true→e.on≠i:=λ{dG j dK} ax r4 aM e he V BZ=>by
  obtain⟨_,o,aj,me⟩:=mem_ready.1 aM;rw[aj]at r4;cases r4
  have h1:=me e he V;have bJ:=(mem_ready.1 ax).1;rw[BZ]at h1;rcases Nat.lt_or_ge i dG.size with dc|dc
  ·simp[dc]at bJ h1;rw[bJ]at h1;cases h1
  ·simp[Array.getElem?_eq_none dc]at h1
 intro fuel;induction fuel with
 |zero=>
  intro dG a w _ ax ah fc H;refine⟨λh=>(by rw[h]at ax;cases ax),λj aM=>?_⟩;by_cases vF:j=i
  ·subst vF;exact ah.wpOp hi fc ⟨.inr fc,H⟩
  ·have:=ready_mono aM vF;rw[H.1]at this;cases this
 |succ fuel bD=>
  intro dG a w nA ax ah fc H;refine⟨λh=>(by rw[h]at ax;cases ax),λj aM=>?_⟩;by_cases vF:j=i
  ·subst vF;exact ah.wpOp hi fc ⟨.inr fc,H⟩
  ·have h1:=H.2 j (ready_mono aM vF);obtain⟨Q5,dK,r4,me⟩:=mem_ready.1 aM;have Ca:=Mk ax r4 aM
   have ag8:j≠z:=λe=>by
    subst e;rw[hz]at r4;cases r4
    obtain⟨e,an,au,aK⟩:=E3;exact Ca e an au aK
   have D:=wpOp_putIf r4 (nA j dK r4 vF Q5 Ca) (λcs b=>Sy i gL cs b hi) (λcs b=>Sy j dK cs b r4) xH ah h1
   have ab5:∀k ok,ops[k]?=some ok→k≠i→(dG.setIfInBounds j true).getD k true=false→
     (∀e∈ok.after,Region.binds md e=true→e.on≠i)→gL.apart ops ok=true:=λk ok hk o9 s8 s5=>by
    refine nA k ok hk o9 ?_ s5;by_cases Sb:j=k
    ·subst Sb;exact Q5
    ·rw[getD_set_ne true Sb]at s8;exact s8
   refine wpOp_mono (λe8 w' ak=>?_) D;have RW:S w':=ak.2.1.resolve_left ag8;refine⟨.inr RW,bD (dG.setIfInBounds j true) e8 w' ab5 (ready_mono ax (Ne.symm vF)) ak.1 RW ?_⟩;rw[Array.setIfInBounds_comm _ _ vF];exact ak.2.2
theorem WR{i:Nat}{gL uH:Oper}{v:Value}{fuel:Nat}{dG:Array Bool}{a:Act}{w:World}(hi:ops[i]?=some gL)(hz:ops[z]?=some uH)(E3:(uH.after.toList.any λe=>Region.binds md e&&Nat.beq e.on i)=true)
  (W:Region.noSelect ops=true) (be:Region.free md ops dG i=true) (ax:(Region.ready md ops dG).contains i=true)
  (xH:∀c a w,Q (.panic c) (a.put gL.dst v) w→Q (.panic c) a w) (ah:YieldsIf P ops S gL v a) (fc:S w)
  (h:sE P md ops Q S z fuel (dG.setIfInBounds i true) (a.put gL.dst v) w):sE P md ops Q S z (fuel+1) dG a w:=by
 refine VO hi hz ?_ (Region.noSelect_spec W) xH fuel dG a w (Region.free_spec hi be) (by simpa using ax) ah fc h;rw[List.any_eq_true]at E3;obtain⟨e,an,au⟩:=E3;rw[Bool.and_eq_true]at au;exact⟨e,Array.mem_toList_iff.1 an,au.1,Nat.eq_of_beq_eq_true au.2⟩
theorem LJ{i:Nat}{gL:Oper}{fuel:Nat}{dG:Array Bool}{a:Act}{w:World}(hi:ops[i]?=some gL)(ax:Region.ready md ops dG=[i])(bl:gL.guard=none)
  (h:gL.wp P a w (λe8 w'=>(i=z∨S w')∧sE P md ops Q S z fuel (dG.setIfInBounds i true) e8 w') Q):sE P md ops Q S z (fuel+1) dG a w:=by
 refine⟨λbJ=>(by rw[ax]at bJ;cases bJ),λj aM=>?_⟩;rw[ax,List.mem_singleton]at aM;subst aM;unfold wpOp;simp only[hi];rw[if_pos (by unfold Region.wanted;rw[bl])];exact .inl h
theorem WS{dG:Array Bool}{a:Act}{w:World}(ax:Region.ready md ops dG=[])(h:Q .normal a w):∀fuel,sE P md ops Q S z fuel dG a w
 |0=>⟨ax,h⟩
 |_+1=>⟨λ_=>h,by rw[ax];simp⟩
end late
theorem su:kR prog 125 84 3 (ei b1) c2:=⟨underlying125,uN.key⟩
theorem pl{b:Act}{d:Nat}{v:Value}(Z:d<b.tmps.size)(t:Nat):(b.put (some d) v).eval (.tmp t)=if d=t then v else b.eval (.tmp t):=zS b d v t Z
theorem qc(b:Act)(d:Nat)(v:Value):(b.put (some d) v).tmps.size=b.tmps.size:=by simp[Act.put]
theorem Mv(b:Act)(o:Option Nat)(v:Value):(b.put o v).tmps.size=b.tmps.size:=by cases o<;>simp[Act.put]
theorem G2(b:Act)(o:Option Nat)(v:Value):(b.put o v).defers=b.defers:=by cases o<;>rfl
variable {I:bw}{m:List (bh×Int)}
theorem Nv{w:World}{r clock:Nat}{es:Array MapEntry}(V:w.heap[r]?=some (.map es clock))(hv:e9 I (dz (ei b1) (c5 .i64) m) es.toList)(h:bh):
  (Instr.lookup 125 (.map (some r)) (.agg #[.int .i64 h.bg,.int .i64 h.aQ]) false).run prog w=.ok (.int .i64 ((c3 c2 m h).getD 0)) w:=by
 have af:(Value.agg #[.int .i64 h.bg,.int .i64 h.aQ])=valOf (ei b1 h):=rfl;rw[af];have aA:∀w,(underlying 125).run prog w=.ok (.map 84 3) w:=λw=>by simp[underlying,program,Sem.run,su.gv]
 have b6:=nS (P:=prog) V;have cQ:=su.key.ij (es.isEmpty) h w;have e0:=x8 su.key h w es.toList;cases bl:c3 c2 m h with
 |none=>
  obtain⟨bU,_⟩:=s9 su.key h w m es.toList 0 hv bl;have fo:(Instr.findKey 84 (valOf (ei b1 h)) es.toList).run prog w=.ok none w:=by rw[e0,bU]
  simp[Instr.lookup,aA,b6,cQ,fo,zeroValue3]
 |some a=>
  obtain⟨j,v,bU,cG,_⟩:=CS su.key h w m es.toList 0 a hv bl;have fo:(Instr.findKey 84 (valOf (ei b1 h)) es.toList).run prog w=.ok (some (0+j,v)) w:=by rw[e0,bU]
  simp only[c5,aO]at cG;simp[Instr.lookup,aA,b6,cQ,fo,cG]
variable {h:bh}
theorem WT{w:World}{r clock:Nat}{es:Array MapEntry}(V:w.heap[r]?=some (.map es clock))(hv:e9 I (dz (ei b1) (c5 .i64) m) es.toList)(bl:c3 c2 m h=none):
  (Instr.mapEntry 125 (.map (some r)) (.agg #[.int .i64 h.bg,.int .i64 h.aQ])).run prog w=.ok (.tuple #[.int .i64 0,.int .i64 (clock:Int)]) (w.putObj r (.map (es.push ⟨.agg #[.int .i64 h.bg,.int .i64 h.aQ],.int .i64 0,clock⟩) (clock+1))):=by
 have af:(Value.agg #[.int .i64 h.bg,.int .i64 h.aQ])=valOf (ei b1 h):=rfl;rw[af];have aA:∀w,(underlying 125).run prog w=.ok (.map 84 3) w:=λw=>by simp[underlying,program,Sem.run,su.gv]
 have b6:=nS (P:=prog) V;have cQ:=su.key.ij false h w;have e0:=x8 su.key h w es.toList;obtain⟨bU,_⟩:=s9 su.key h w m es.toList 0 hv bl;have fo:(Instr.findKey 84 (valOf (ei b1 h)) es.toList).run prog w=.ok none w:=by rw[e0,bU]
 have gy:∀aI:Obj,(setObj r aI).run prog w=.ok () (w.putObj r aI):=λaI=>by simp[setObj,Sem.run,V,World.putObj]
 simp[Instr.mapEntry,aA,b6,cQ,fo,zeroValue3,gy,goInt]
theorem WU{w:World}{r clock:Nat}{es:Array MapEntry}(fv:iK es clock){k v ay:Value}(V:w.heap[r]?=some (.map (es.push ⟨k,ay,clock⟩) (clock+1))):
  (Instr.entryStore 125 (.map (some r)) (.int .i64 (clock:Int)) v).run prog w=.ok () (w.putObj r (.map (es.push ⟨k,v,clock⟩) (clock+1))):=by
 have b6:=nS (P:=prog) V;have gy:∀aI:Obj,(setObj r aI).run prog w=.ok () (w.putObj r aI):=λaI=>by simp[setObj,Sem.run,V,World.putObj]
 have JS:(es.push ⟨k,ay,clock⟩).findIdx? (λe=>((e.born:Nat):Int)==((clock:Nat):Int))=some es.size:=by
  have e:(es.push ⟨k,ay,clock⟩).findIdx? (λe=>((e.born:Nat):Int)==((clock:Nat):Int))=(es.push ⟨k,ay,clock⟩).toList.findIdx? (λe=>((e.born:Nat):Int)==((clock:Nat):Int)):=by
   generalize es.push ⟨k,ay,clock⟩=a;cases a;simp
  rw[e];refine Ts (l:=(es.push ⟨k,ay,clock⟩).toList) (j:=es.size) (e0:=⟨k,ay,clock⟩) ?_ (by simp);rw[Array.toList_push,List.map_append,List.nodup_append];refine⟨fv.1,by simp,λx u y ah e=>?_⟩;obtain⟨z,hz,rfl⟩:=List.mem_map.1 u;have:=fv.2 z hz;simp at ah;omega
 have J2:(es.push ⟨k,ay,clock⟩).modify es.size (λe=>{e with val:=v})=es.push ⟨k,v,clock⟩:=by
  apply Array.ext';rw[Array.toList_modify];apply List.ext_getElem?;intro i;rw[List.getElem?_modify,Array.toList_push,Array.toList_push];by_cases hi:es.size=i
  ·subst hi;simp
  ·have h1:(es.toList++[(⟨k,ay,clock⟩:MapEntry)])[i]?=(es.toList++[(⟨k,v,clock⟩:MapEntry)])[i]?:=by
    rcases Nat.lt_or_ge i es.size with h|h
    ·rw[List.getElem?_append_left (by simpa using h),List.getElem?_append_left (by simpa using h)]
    ·rw[List.getElem?_eq_none (by simp;omega),List.getElem?_eq_none (by simp;omega)]
   rw[h1];cases(es.toList++[(⟨k,v,clock⟩:MapEntry)])[i]?<;>simp[hi]
 simp[Instr.entryStore,b6,asInt,asIntOf,JS,J2,gy]
def FU(Q:Act→World→Prop):Exit→Act→World→Prop:=λe a w=>e=.normal∧Q a w
def IG(ops:Array Oper)(z i:Nat)(L:Array Bool):Bool:=Region.free .any ops L i&&(Region.ready .any ops L).contains i&&(match ops[z]? with|some uH=>uH.after.toList.any λe=>Region.binds .any e&&Nat.beq e.on i|none=>false)
def DW(ops:Array Oper)(z:Nat):Array Bool→List Nat→Bool
 |_,[]=>true
 |L,i::r=>IG ops z i L&&DW ops z (L.setIfInBounds i true) r
theorem wJ{P:Program}{ops:Array Oper}{Q:Act→World→Prop}{S:World→Prop}{z i RC:Nat}{gL uH:Oper}{op:Op}{v:Value}{fuel:Nat}{L:Array Bool}{a:Act}{w:World}(aT:Region.noSelect ops=true)(hz:ops[z]?=some uH)(hi:ops[i]?=some gL)(bR:gL.dst=some RC∧gL.op=op∧gL.guard=none)(aa:IG ops z i L=true)
  (ax:∀w,S w→(execOp a.eval gL).run P w=.ok (.value v) w) (fc:S w) (h:sE P .any ops (FU Q) S z fuel (L.setIfInBounds i true) (a.put (some RC) v) w):sE P .any ops (FU Q) S z (fuel+1) L a w:=by
 simp only[IG,hz,Bool.and_eq_true]at aa;refine WR hi hz aa.2 aT aa.1.1 aa.1.2 (λ_ _ _ h=>by cases h.1) (.inl ⟨by unfold Region.wanted;rw[bR.2.2],ax⟩) fc ?_;rw[bR.1];exact h
set_option maxHeartbeats 1000000
variable {c j:Int}
theorem W6{Q:Act→World→Prop}{ops:Array Oper}{eG gd ey m5 uC uD uE uF tw tC tv:Oper}(bJ:ops[0]?=some eG)(hH:eG.dst=some 57∧eG.op=.move (.tmp 8)∧eG.guard=none)(h1:ops[1]?=some gd)(an:gd.dst=some 58∧gd.op=.load 84 (.tmp 13)∧gd.guard=none)(D:ops[2]?=some ey)(au:ey.dst=some 59∧ey.op=.lookup 125 (.tmp 57) (.tmp 58) false∧ey.guard=none)(ak:ops[3]?=some m5)(aK:m5.dst=some 60∧m5.op=.move (.tmp 1)∧m5.guard=none)(bc:ops[4]?=some uC)(aG:uC.dst=some 61∧uC.op=.move (.tmp 9)∧uC.guard=none)(bX:ops[5]?=some uD)(bb:uD.dst=some 62∧uD.op=.indexAddr 22 (.tmp 60) (.tmp 61)∧uD.guard=none)(dV:ops[6]?=some uE)(bC:uE.dst=some 63∧uE.op=.load 3 (.tmp 62)∧uE.guard=none)(fF:ops[7]?=some uF)(bY:uF.dst=some 64∧uF.op=.binOp .add 3 (.tmp 59) (.tmp 63) 3∧uF.guard=none)(jm:ops[8]?=some tw)(cK:tw.dst=some 65∧tw.op=.mapEntry 125 (.tmp 57) (.tmp 58)∧tw.guard=none)(hY:ops[9]?=some tC)(di:tC.dst=some 66∧tC.op=.extract (.tmp 65) 1∧tC.guard=none)(lT:ops[10]?=some tv)(ec:tv.dst=none∧tv.op=.entryStore 125 (.tmp 57) (.tmp 66) (.tmp 64)∧tv.guard=none)
  (jH:ops.size=11) (aT:Region.noSelect ops=true) (Ef:DW ops 10 (Array.replicate 11 false) [0,1,3,4,5,6,2,7]=true)
  (J4:Region.ready .any ops #[true,true,true,true,true,true,true,true,false,false,false]=[8]) (J5:Region.ready .any ops #[true,true,true,true,true,true,true,true,true,false,false]=[9]) (II:Region.ready .any ops #[true,true,true,true,true,true,true,true,true,true,false]=[10]) (IJ:Region.ready .any ops #[true,true,true,true,true,true,true,true,true,true,true]=[])
   {a:Act} {w:World} {r b pL so n nr clock:Nat}    {es:Array MapEntry} (mV:67≤a.tmps.size)
  (Vo:a.eval (.tmp 8)=.map (some r)) (Vn:a.eval (.tmp 13)=.pointer (some ⟨b,0,none⟩)) (jj:a.eval (.tmp 1)=.slice (some ⟨pL,so,none⟩) n nr) (a9:a.eval (.tmp 9)=.int .i64 j)
  (V:w.heap[b]?=some (.cells #[.int .i64 h.bg,.int .i64 h.aQ] 84 (0,0))) (zz:w.heap[r]?=some (.map es clock)) (hv:e9 I (dz (ei b1) (c5 .i64) m) es.toList) (fv:iK es clock) (mg:w.cell? ⟨pL,so+j.toNat,none⟩=some (.int .i64 c)) (aM:0≤j∧j<n) (bl:c3 c2 m h=none)
  (xH:∀e8,e8.tmps.size=a.tmps.size→e8.defers=a.defers→(∀t,¬(57≤t∧t≤66)→e8.tmps.getD t undef=a.tmps.getD t undef)→Q e8 (w.putObj r (.map (es.push ⟨.agg #[.int .i64 h.bg,.int .i64 h.aQ],.int .i64 (bK (0+c)),clock⟩) (clock+1)))) :
  wpAny prog .any ops (FU Q) ops.size (Array.replicate ops.size false) a w:=by
 obtain⟨g5,jJ⟩:∃g5,w.putObj r (.map (es.push ⟨.agg #[.int .i64 h.bg,.int .i64 h.aQ],.int .i64 0,clock⟩) (clock+1))=g5:=⟨_,rfl⟩;have ahE:=(Array.getElem?_eq_some_iff.1 zz).1;have xL:b≠r:=λe=>by rw[e,zz]at V;cases V
 have pf:pL≠r:=λe=>by simp[World.cell?,e,zz]at mg
 have TT:g5.heap[r]?=some (.map (es.push ⟨.agg #[.int .i64 h.bg,.int .i64 h.aQ],.int .i64 0,clock⟩) (clock+1)):=by rw[←jJ];exact World.putObj_heap_same ahE
 have TS:g5.heap[b]?=some (.cells #[.int .i64 h.bg,.int .i64 h.aQ] 84 (0,0)):=by rw[←jJ];exact(World.putObj_heap_other xL).trans V
 have alb:g5.cell? ⟨pL,so+j.toNat,none⟩=some (.int .i64 c):=by
  rw[World.cell?_of_block (w:=w) (by rw[←jJ];exact World.putObj_heap_other pf)];exact mg
 have af5:e9 I (dz (ei b1) (c5 .i64) (ga c2 m h 0)) (es.push ⟨.agg #[.int .i64 h.bg,.int .i64 h.aQ],.int .i64 0,clock⟩).toList:=by
  obtain⟨_,cG⟩:=s9 su.key h w m es.toList 0 hv bl;simpa using cG 0 ⟨.agg #[.int .i64 h.bg,.int .i64 h.aQ],.int .i64 0,clock⟩ (by simp[c5,aO]) (by simp[ei,b1,aO,b9])
 have agS:(c3 c2 m h).getD 0=0:=by rw[bl];rfl
 have agT:(c3 c2 (ga c2 m h 0) h).getD 0=0:=by rw[No (λn=>by cases n;simp[c2])];rfl
 have cells:∀a1,(a1=w∨a1=g5)→a1.cell? ⟨b,0,none⟩=some (.int .i64 h.bg)∧a1.cell? ⟨b,1,none⟩=some (.int .i64 h.aQ)∧a1.cell? ⟨pL,so+j.toNat,none⟩=some (.int .i64 c):=λa1 i4=>by
  rcases i4 with rfl|rfl
  ·exact⟨by simp[World.cell?,V],by simp[World.cell?,V],mg⟩
  ·exact⟨by simp[World.cell?,TS],by simp[World.cell?,TS],alb⟩
 obtain⟨vk,o7⟩:∃vk,bK (0+c)=vk:=⟨_,rfl⟩;rw[o7]at xH;simp only[DW,Bool.and_eq_true]at Ef;obtain⟨sk,gK,k8,pn,hw,kj,dN,oJ,_⟩:=Ef;have sI:57<a.tmps.size:=by omega
 have tL:58<a.tmps.size:=by omega
 have Df:59<a.tmps.size:=by omega
 have uV:60<a.tmps.size:=by omega
 have wN:61<a.tmps.size:=by omega
 have yp:62<a.tmps.size:=by omega
 have An:63<a.tmps.size:=by omega
 have Gn:64<a.tmps.size:=by omega
 have Lc:65<a.tmps.size:=by omega
 have Tj:66<a.tmps.size:=by omega
 have akO:∀w,(underlying 22).run prog w=.ok (.slice 3) w:=λw=>by simp[underlying,program,Sem.run,underlying22]
 refine T2 (S:=λa1=>a1=w∨a1=g5) (z:=10) _ _ _ _ ?_;rw[jH];refine wJ aT lT bJ hH sk (v:=.map (some r)) (λa1 i4=>?_) (.inl rfl) ?_
 ·simp[execOp,hH.2.1,Vo]
 refine wJ aT lT h1 an gK (v:=.agg #[.int .i64 h.bg,.int .i64 h.aQ]) (λa1 i4=>?_) (.inl rfl) ?_
 ·obtain⟨kI,bk,_⟩:=cells a1 i4
  have aJ:=vq (P:=prog) (T:=84) (n:=2) (dr:=true) ⟨sizeOf84,isAgg84⟩ (w:=a1) (b:=b) (off:=0) (vs:=[.int .i64 h.bg,.int .i64 h.aQ]) (λj aM=>by
   match j,aM with
   |0,_=>exact⟨_,rfl,kI⟩
   |1,_=>exact⟨_,rfl,bk⟩) (λe=>by cases e)
  simp[execOp,an.2.1,pl,sI,Vn,Instr.loadAt,Instr.sureAddr,aJ]
 refine wJ aT lT ak aK k8 (v:=.slice (some ⟨pL,so,none⟩) n nr) (λa1 i4=>?_) (.inl rfl) ?_
 ·simp[execOp,aK.2.1,pl,qc,sI,tL,jj]
 refine wJ aT lT bc aG pn (v:=.int .i64 j) (λa1 i4=>?_) (.inl rfl) ?_
 ·simp[execOp,aG.2.1,pl,qc,sI,tL,uV,a9]
 refine wJ aT lT bX bb hw (v:=.pointer (some ⟨pL,so+j.toNat,none⟩)) (λa1 i4=>?_) (.inl rfl) ?_
 ·simp[execOp,bb.2.1,pl,qc,sI,tL,uV,wN,Instr.indexAt,Instr.sureAddr,asIntOf,akO,aM,Addr.add,sizeOf3]
 refine wJ aT lT dV bC kj (v:=.int .i64 c) (λa1 i4=>?_) (.inl rfl) ?_
 ·obtain⟨_,_,kI⟩:=cells a1 i4
  have aJ:=vq (P:=prog) (T:=3) (n:=1) (dr:=false) ⟨sizeOf3,isAgg3⟩ (w:=a1) (b:=pL) (off:=so+j.toNat) (vs:=[.int .i64 c]) (λj aM=>by
   match j,aM with
   |0,_=>exact⟨_,rfl,kI⟩) (λe=>by omega)
  simp[execOp,bC.2.1,pl,qc,sI,tL,uV,wN,yp,Instr.loadAt,Instr.sureAddr,aJ]
 refine wJ aT lT D au dN (v:=.int .i64 0) (λa1 i4=>?_) (.inl rfl) ?_
 ·have aJ:(Instr.lookup 125 (.map (some r)) (.agg #[.int .i64 h.bg,.int .i64 h.aQ]) false).run prog a1=.ok (.int .i64 0) a1:=by
   rcases i4 with rfl|rfl
   ·have:=Nv zz hv h;rwa [agS]at this
   ·have:=Nv TT af5 h;rwa [agT]at this
  simp[execOp,au.2.1,pl,qc,sI,tL,uV,wN,yp,An,aJ]
 refine wJ aT lT fF bY oJ (v:=.int .i64 vk) (λa1 i4=>?_) (.inl rfl) ?_
 ·have aA:(eqGuard .add 3 (.tmp 59) (.tmp 63) (.int .i64 0) (.int .i64 c)).run prog a1=.ok () a1:=rfl;have e2:(binOp .add 3 (.int .i64 0) (.int .i64 c)).run prog a1=.ok (.int .i64 vk) a1:=by rw[←o7];rfl
  simp[execOp,bY.2.1,pl,qc,sI,tL,Df,uV,wN,yp,An,aA,e2]
 have F:∀t,¬(57≤t∧t≤66)→57≠t∧58≠t∧59≠t∧60≠t∧61≠t∧62≠t∧63≠t∧64≠t∧65≠t∧66≠t:=λt bB=>by omega
 generalize dR:Act.put (Act.put _ _ _) (some 64) _=A;have MZ:A.eval (.tmp 57)=.map (some r):=by rw[←dR];simp[pl,qc,sI,tL,Df,uV,wN,yp,An,Gn]
 have U5:A.eval (.tmp 58)=.agg #[.int .i64 h.bg,.int .i64 h.aQ]:=by rw[←dR];simp[pl,qc,sI,tL,Df,uV,wN,yp,An,Gn]
 have U6:A.eval (.tmp 64)=.int .i64 vk:=by rw[←dR];simp[pl,qc,sI,tL,Df,uV,wN,yp,An,Gn]
 have DM:A.tmps.size=a.tmps.size:=by rw[←dR];simp[qc]
 have U7:A.defers=a.defers:=by rw[←dR];simp only[G2]
 have U8:∀t,¬(57≤t∧t≤66)→A.tmps.getD t undef=a.tmps.getD t undef:=λt bB=>by
  obtain⟨f57,f58,f59,f60,f61,f62,f63,f64,_⟩:=F t bB;have:A.eval (.tmp t)=a.eval (.tmp t):=by rw[←dR];simp[pl,qc,sI,tL,Df,uV,wN,yp,An,Gn,f57,f58,f59,f60,f61,f62,f63,f64]
  exact this
 clear dR;have aJ:=WT zz hv bl;rw[jJ]at aJ;have ajb:(execOp A.eval tw).run prog w=.ok (.value (.tuple #[.int .i64 0,.int .i64 (clock:Int)])) g5:=by simp[execOp,cK.2.1,MZ,U5,aJ]
 refine LJ jm J4 cK.2.2 ?_;unfold Oper.wp;rw[ajb];simp only[Oper.upon,cK.1];refine⟨by simp,?_⟩;have ajc:(execOp (A.put (some 65) (.tuple #[.int .i64 0,.int .i64 (clock:Int)])).eval tC).run prog g5=.ok (.value (.int .i64 (clock:Int))) g5:=by
  simp[execOp,di.2.1,pl,DM,Lc,Instr.extract]
 refine LJ hY J5 di.2.2 ?_;unfold Oper.wp;rw[ajc];simp only[Oper.upon,di.1];refine⟨by simp,?_⟩;have aen:(execOp ((A.put (some 65) (.tuple #[.int .i64 0,.int .i64 (clock:Int)])).put (some 66) (.int .i64 (clock:Int))).eval tv).run prog g5=.ok .skip (g5.putObj r (.map (es.push ⟨.agg #[.int .i64 h.bg,.int .i64 h.aQ],.int .i64 vk,clock⟩) (clock+1))):=by
  simp[execOp,ec.2.1,pl,qc,DM,Lc,Tj,MZ,U6,WU fv TT]
 refine LJ lT II ec.2.2 ?_;unfold Oper.wp;rw[aen];simp only[Oper.upon,ec.1];refine⟨by simp,WS IJ ⟨rfl,?_⟩ _⟩;have e:g5.putObj r (.map (es.push ⟨.agg #[.int .i64 h.bg,.int .i64 h.aQ],.int .i64 vk,clock⟩) (clock+1))=w.putObj r (.map (es.push ⟨.agg #[.int .i64 h.bg,.int .i64 h.aQ],.int .i64 vk,clock⟩) (clock+1)):=by
  rw[←jJ];simp[World.putObj]
 rw[e];refine xH _ (by rw[Mv,Mv,Mv,DM]) (by rw[G2,G2,G2,U7]) λt bB=>?_;obtain⟨_,_,_,_,_,_,_,_,f65,f66⟩:=F t bB;rw[←U8 t bB];show(((A.put (some 65) _).put (some 66) _).put none _).eval (.tmp t)=A.eval (.tmp t);have e2:∀(b:Act) v,(b.put none v).eval (.tmp t)=b.eval (.tmp t):=λb v=>rfl;rw[e2];simp[pl,qc,DM,Lc,Tj,f65,f66]
def AP:ai→ai
 |[]=>[]
 |p::r=>bif Nat.ble 57 p.1&&Nat.ble p.1 66 then AP r else p::AP r
theorem Mf(t:Nat):∀env:ai,((57≤t∧t≤66)→(AP env).get t=.gq)∧(¬(57≤t∧t≤66)→(AP env).get t=env.get t)
 |[]=>⟨λ_=>rfl,λ_=>rfl⟩
 |p::r=>by
  obtain⟨p6,qW⟩:=Mf t r;obtain⟨k,v⟩:=p;simp only[AP];cases aa:(Nat.ble 57 k&&Nat.ble k 66)with
  |true=>
   simp only[cond_true,Bool.and_eq_true,Nat.ble_eq]at aa ⊢;refine⟨p6,λaT=>?_⟩;rw[qW aT,ai.c4,if_neg (λe=>by subst e;exact aT aa)]
  |false=>
   simp only[cond_false,ai.c4];constructor
   ·intro h;by_cases he:k=t
    ·subst he;have:(Nat.ble 57 k&&Nat.ble k 66)=true:=by simp[h.1,h.2]
     rw[this]at aa;cases aa
    ·rw[if_neg he];exact p6 h
   ·intro h;split
    ·rfl
    ·exact qW h
theorem A.Wf{N:Nat}{ids:List Nat}{Q:Exit→ai→Y→Prop}{env:ai}{σ:Y}{id:Nat}{ops:Array Oper}{eG gd ey m5 uC uD uE uF tw tC tv:Oper}(d b:Nat){xs:List Int}(hm:prog.follows .mixedOrders=true)(mV:67≤N)
  (vl:env.get 8=.dm d) (afB:env.get 13=.ptr b 0) (aA:env.get 1=.aX false (aD bq xs)) (Jn:env.get 9=.int .i64 j)
  (Z:σ.get d=some (.map 84 3 (dz (ei b1) (c5 .i64) m))) (V:σ.get b=some (.cells 84 [.int .i64 h.bg,.int .i64 h.aQ])) (u:dj xs j=some c) (bl:c3 c2 m h=none) (bJ:ops[0]?=some eG) (hH:eG.dst=some 57∧eG.op=.move (.tmp 8)∧eG.guard=none) (h1:ops[1]?=some gd) (an:gd.dst=some 58∧gd.op=.load 84 (.tmp 13)∧gd.guard=none) (D:ops[2]?=some ey) (au:ey.dst=some 59∧ey.op=.lookup 125 (.tmp 57) (.tmp 58) false∧ey.guard=none) (ak:ops[3]?=some m5) (aK:m5.dst=some 60∧m5.op=.move (.tmp 1)∧m5.guard=none) (bc:ops[4]?=some uC) (aG:uC.dst=some 61∧uC.op=.move (.tmp 9)∧uC.guard=none) (bX:ops[5]?=some uD) (bb:uD.dst=some 62∧uD.op=.indexAddr 22 (.tmp 60) (.tmp 61)∧uD.guard=none) (dV:ops[6]?=some uE) (bC:uE.dst=some 63∧uE.op=.load 3 (.tmp 62)∧uE.guard=none) (fF:ops[7]?=some uF) (bY:uF.dst=some 64∧uF.op=.binOp .add 3 (.tmp 59) (.tmp 63) 3∧uF.guard=none) (jm:ops[8]?=some tw) (cK:tw.dst=some 65∧tw.op=.mapEntry 125 (.tmp 57) (.tmp 58)∧tw.guard=none) (hY:ops[9]?=some tC) (di:tC.dst=some 66∧tC.op=.extract (.tmp 65) 1∧tC.guard=none) (lT:ops[10]?=some tv) (ec:tv.dst=none∧tv.op=.entryStore 125 (.tmp 57) (.tmp 66) (.tmp 64)∧tv.guard=none)
  (jH:ops.size=11) (aT:Region.noSelect ops=true) (Ef:DW ops 10 (Array.replicate 11 false) [0,1,3,4,5,6,2,7]=true)
  (J4:Region.ready .any ops #[true,true,true,true,true,true,true,true,false,false,false]=[8]) (J5:Region.ready .any ops #[true,true,true,true,true,true,true,true,true,false,false]=[9]) (II:Region.ready .any ops #[true,true,true,true,true,true,true,true,true,true,false]=[10]) (IJ:Region.ready .any ops #[true,true,true,true,true,true,true,true,true,true,true]=[])
  (k:Q .normal (AP env) (σ.set d (.map 84 3 (dz (ei b1) (c5 .i64) (ga c2 m h (bK (((c3 c2 m h).getD (0:Int))+c))))))):aY ⟨prog,N,ids⟩ (.region id ops true) Q env σ:=by
 rw[show(c3 c2 m h).getD (0:Int)=0 by rw[bl];rfl]at k;refine aY.of λcx a w ax=>?_;obtain⟨I,β,aq,bB,W,xN⟩:=ax;have aq:=aq.drew;have Au:=bB 8;rw[vl]at Au
 have LQ:=bB 13;rw[afB]at LQ
 have fO:=bB 1;rw[aA]at fO
 have v9:=bB 9;rw[Jn]at v9
 obtain⟨r,es,clock,aiQ,cF,cW,ht⟩:∃r es clock,a.tmps.getD 8 undef=.map (some r)∧β d=.map (some r)∧({w with drawn:=w.drawn+1}:World).heap[r]?=some (.map es clock)∧(e9 I (dz (ei b1) (c5 .i64) m) es.toList∧(∀o,I r o=none)∧Place cx r∧iK es clock):=by
  simp only[ar]at Au;have aj:=aq.cB d _ Z;simp only[aU]at aj;rcases aj with q|⟨r,es,clock,an,au,aK⟩
  ·rw[Au.1,q]at Au;simp[k3]at Au
  ·exact⟨r,es,clock,by rw[Au.1,an],an,au,aK⟩
 obtain⟨ht,lQ,sY,g6⟩:=ht
 obtain⟨dY,dJ,eL⟩:∃dY,a.tmps.getD 13 undef=.pointer (some ⟨dY,0,none⟩)∧({w with drawn:=w.drawn+1}:World).heap[dY]?=some (.cells #[.int .i64 h.bg,.int .i64 h.aQ] 84 (0,0)):=by
  simp only[ar]at LQ;obtain⟨dY,bU,cG⟩:=LQ;have aj:=aq.cB b _ V;simp only[aU]at aj;rcases aj with q|⟨aN,arr,an,au,aK,_⟩
  ·rw[q]at bU;simp[bV]at bU
  ·rw[an]at bU;simp only[bV,Option.some.injEq]at bU;subst bU;refine⟨aN,cG,?_⟩;simp only[bO,ar,aO]at aK;obtain⟨_,_,f1,rfl,_,_,rfl,rfl,rfl⟩:=aK;rw[au,show arr=#[.int .i64 h.bg,.int .i64 h.aQ]from by cases arr;simpa using f1]
 simp only[dj]at u;split at u
 rotate_left
 ·cases u
 rename_i anK;have bQ:j.toNat<xs.length:=(List.getElem?_eq_some_iff.1 u).1
 obtain⟨pL,so,nr,bk,bZ⟩:∃pL so nr,a.tmps.getD 1 undef=.slice (some ⟨pL,so,none⟩) xs.length nr∧({w with drawn:=w.drawn+1}:World).cell? ⟨pL,so+j.toNat,none⟩=some (.int .i64 c):=by
  simp only[ar,aO]at fO;obtain⟨ad,nr,bU,cG,dP,_,gT⟩:=fO;have zu:(aD bq xs).length=xs.length:=by simp[aD]
  rcases gT with gT|⟨pL,so,rfl,gT⟩
  ·have:xs=[]:=by simpa [aD]using gT
   subst this;simp at bQ
  ·refine⟨pL,so,nr,by rw[bU,zu],?_⟩;have h0:=Lh (sz:=1) _ so j.toNat (λe he=>by obtain⟨r,_,rfl⟩:=List.mem_map.1 he;rfl) gT (by rw[zu];exact bQ);have lZ:(aD bq xs).getD j.toNat []=bq.enc c:=by
    simp only[aD,List.getD_eq_getElem?_getD,List.getElem?_map,u];rfl
   rw[lZ,Nat.mul_one]at h0;obtain⟨⟨ay,f1,f2⟩,_⟩:=h0;have:ay=.int .i64 c:=f2;subst this;exact aq.good _ _ _ f1
 simp only[ar,aO]at v9;have aM:0≤j∧j<(xs.length:Nat):=⟨by omega,by omega⟩;refine wp_mono (Q:=FU λe8 w'=>∃gm az,oT ⟨prog,N,ids⟩ cx gm az e8 w'∧Q .normal gm az) (wp_region_any hm (W6 bJ hH h1 an D au ak aK bc aG bX bb dV bC fF bY jm cK hY di lT ec jH aT Ef J4 J5 II IJ (I:=I) (by rw[W];exact mV) aiQ dJ bk v9 eL cW ht g6 bZ aM bl λe8 lp mz z3=>?_)) (λe e8 w' he=>by obtain⟨rfl,he⟩:=he;exact he);refine⟨_,_,⟨I,β,?_,λt=>?_,lp.trans W,mz.trans xN⟩,k⟩
 ·refine aq.turn (d:=d) (b:=r) ⟨λk hk bQ=>World.putObj_heap_other hk,by rw[World.putObj_size];exact Nat.le_refl _,rfl,rfl,rfl,Nat.le_refl _⟩ sY (λx u=>by rw[Y.hU,if_neg u]) (λx u W e=>aq.dn x d W (by rw[Z];rfl) u r e (by rw[cF];simp[dA,bV])) (b7.refl I) (λ_ _ _=>rfl)
   (λo v af=>by rw[lQ]at af;cases af) (lQ none) (λ_ _=>rfl) (.inr rfl) (g0.refl β) (.inl (by rw[cF];rfl)) λaI b3=>?_
  rw[Y.hU,if_pos rfl,Z]at b3;injection b3 with b3
  subst b3;simp only[aU];refine .inr ⟨r,_,_,cF,World.putObj_heap_same (gV cW),?_,lQ,sY,g6.push _ _⟩;obtain⟨_,cG⟩:=s9 su.key h w m es.toList 0 ht bl;simpa using cG (bK (0+c)) ⟨.agg #[.int .i64 h.bg,.int .i64 h.aQ],.int .i64 (bK (0+c)),clock⟩ (by simp[c5,aO]) (by simp[ei,b1,aO,b9])
 ·by_cases aa:57≤t∧t≤66
  ·rw[(Mf t env).1 aa];simp[ar,aO]
  ·rw[(Mf t env).2 aa,z3 t aa];exact bB t
end Go.Proofs.YtmnbolcmepihlaaGreat
