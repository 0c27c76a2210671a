/- Several texts in one. No condition but those that stand in each. -/
import Derived.Orders
import Derived.Tactics
import Derived.Laws.World
import Derived.Below
import Derived.KernelRfl
import Derived.Laws.Small
import Derived.Laws.StructEq
import Derived.Laws.OwnMore
import Derived.Maps.AppendAt
namespace Go.Proofs.YtmnbolcmepihlaaGreat
set_option linter.all false
open Go
section
abbrev Imm:=Nat→Option Nat→Option Value
def aQ(I I':Imm):Prop:=∀b o v,I b o=some v→I' b o=some v
theorem aQ.refl(I:Imm):aQ I I:=λ_ _ _ h=>h
variable {I:Imm}
theorem aQ.trans{J K:Imm}(h:aQ I J)(h':aQ J K):aQ I K:=λ_ _ _ x=>h' _ _ _ (h _ _ _ x)
inductive Hk where
 |ame (f:Nat)
 |csl (n:Nat)
 |row (i:Nat)
 |jW (i off:Nat)
 deriving DecidableEq
inductive AV where
 |dM
 |undef
 |int (k:IntKind) (n:Int)
 |bool (b:Bool)
 |str (s:ByteArray)
 |lst (full:Bool) (xs:List (List AV))
 |cV (cs:List AV)
 |agg (cs:List AV)
 |tup (vs:List AV)
 |fn (f:Nat) (cap:List AV)
 |bI
 |lC
 |own (d:Nat)
 |ptr (d off:Nat)
 |bX (d:Nat)
 |cfn (f:Nat) (cap:List AV)
 |sl0
 |hnd (k:Hk) (d:Nat)
 |mpf (aL:List (AV×AV))
 |arr (xs:List Int)
 deriving Inhabited
def lg(es:Array MapEntry)(clock:Nat):Value:=.tuple #[.int .i64 (clock:Int),.tuple (es.map λe=>.tuple #[e.key,e.val,.int .i64 (e.born:Int)])]
theorem sZ{es es':Array MapEntry}{c c':Nat}(h:lg es c=lg es' c'):es=es'∧c=c':=by
 simp only[lg,Value.tuple.injEq,Array.mk.injEq,List.cons.injEq,Value.int.injEq,true_and,and_true,Int.ofNat_inj]at h;refine⟨?_,h.1⟩;refine Array.map_inj_right (λx y hxy=>?_)|>.1 h.2;simp only[Value.tuple.injEq,Array.mk.injEq,List.cons.injEq,Value.int.injEq,true_and,and_true,Int.ofNat_inj]at hxy;obtain⟨k,v,b⟩:=x;obtain⟨k',v',b'⟩:=y
 simp only at hxy;obtain⟨rfl,rfl,rfl⟩:=hxy;rfl
def gv(es:Array MapEntry)(clock:Nat):Prop:=(es.toList.map (·.born)).Nodup∧∀x∈es.toList,x.born<clock
mutual
def aB(I:Imm):AV→Value→Prop
 |.dM,_=>True
 |.undef,v=>v=Go.undef
 |.int k n,v=>v=.int k n
 |.bool b,v=>v=.bool b
 |.str s,v=>v=.string s
 |.lst full xs,v=>∃a c,v=.slice a xs.length c∧xs.length≤c∧c≤maxLen∧(full=true→c=xs.length)∧
   (xs=[]∨∃b o,a=some ⟨b,o,none⟩∧dg I b xs o)
 |.cV cs,v=>∃b o,v=.pointer (some ⟨b,o,none⟩)∧fc I b cs o
 |.agg cs,v=>∃vs,v=.agg vs∧aS I cs vs.toList
 |.tup cs,v=>∃vs,v=.tuple vs∧aS I cs vs.toList
 |.fn f cap,v=>∃vs,v=.func (.func f) #[] vs∧aS I cap vs.toList
 |.bI,v=>v=.slice none 0 0
 |.lC,v=>v=.pointer none
 |.own _,_=>False
 |.ptr _ _,_=>False
 |.bX _,_=>False
 |.cfn f cap,v=>∃vs,v=.func (.func f) #[] vs∧aS I cap vs.toList
 |.sl0,v=>∃a c,v=.slice (some a) 0 c∧c≤maxLen
 |.hnd _ _,_=>False
 |.arr xs,v=>v=.agg (xs.map (Value.int .i64)).toArray
 |.mpf aL,v=>∃r es clock,v=.map (some r)∧I r none=some (lg es clock)∧cW I aL es.toList∧gv es clock
def cW(I:Imm):List (AV×AV)→List MapEntry→Prop
 |[],es=>es=[]
 |(k,v)::r,es=>∃e us,es=e::us∧aB I k e.key∧aB I v e.val∧cW I r us
def aS(I:Imm):List AV→List Value→Prop
 |[],vs=>vs=[]
 |x::r,vs=>∃u us,vs=u::us∧aB I x u∧aS I r us
def fc(I:Imm)(b:Nat):List AV→Nat→Prop
 |[],_=>True
 |x::r,o=>(∃u,I b o=some u∧aB I x u)∧fc I b r (o+1)
def dg(I:Imm)(b:Nat):List (List AV)→Nat→Prop
 |[],_=>True
 |e::r,o=>fc I b e o∧dg I b r (o+e.length)
end
def fP:Value→Bool|.slice ..=>true|_=>false
def jS:Value→Bool|.map ..=>true|_=>false
def blk:Value→Option Nat
 |.pointer (some a)=>some a.block
 |.slice (some a) _ _=>some a.block
 |.map (some r)=>some r
 |_=>none
def bY:Value→List Nat
 |.tuple vs=>vs.toList.filterMap blk
 |v=>(blk v).toList
variable {b:Nat}
theorem cR{v:Value}(h:blk v=some b):b∈bY v:=by
 cases v<;>first|(simp[blk]at h;done)|(simp only[bY,h];simp)
theorem sx{v:Value}{b':Nat}(h:blk v=some b)(h':b'∈bY v):b'=b:=by
 cases v<;>first|(simp[blk]at h;done)|(simp only[bY,h]at h';simpa using h')
theorem sy:bY .nilFunc=[]:=rfl
theorem uE:bY (.slice none 0 0)=[]:=rfl
def Hk.rep:Hk→Value→Value→Prop
 |.ame f,h,v=>∃b,blk h=some b∧v=.func (.func f) #[.pointer (some ⟨b,0,none⟩)] #[]
 |.csl n,h,v=>∃b,blk h=some b∧v=.slice (some ⟨b,0,none⟩) n n
 |.row i,h,v=>∃hs:Array Value,h=.tuple hs∧hs.toList[i]?=some v
 |.jW i off,h,v=>∃(hs:Array Value) (u:Value) (b:Nat),h=.tuple hs∧hs.toList[i]?=some u∧blk u=some b∧v=.pointer (some ⟨b,off,none⟩)
theorem Hk.aj8{k:Hk}{v:Value}(h:k.rep .nilFunc v):False:=by
 cases k with
 |ame f=>obtain⟨b,h,_⟩:=h;cases h
 |csl n=>obtain⟨b,h,_⟩:=h;cases h
 |row i=>obtain⟨hs,h,_⟩:=h;cases h
 |jW i off=>obtain⟨hs,u,b,h,_⟩:=h;cases h
mutual
def Rep(I:Imm)(β:Nat→Value):AV→Value→Prop
 |.agg cs,v=>∃vs,v=.agg vs∧aW I β cs vs.toList
 |.tup cs,v=>∃vs,v=.tuple vs∧aW I β cs vs.toList
 |.fn f cap,v=>∃vs,v=.func (.func f) #[] vs∧aW I β cap vs.toList
 |.own d,v=>v=β d∧fP v=true
 |.ptr d off,v=>∃b,blk (β d)=some b∧v=.pointer (some ⟨b,off,none⟩)
 |.bX d,v=>v=β d∧jS v=true
 |.dM,_=>True
 |.undef,v=>aB I .undef v
 |.int k n,v=>aB I (.int k n) v
 |.bool b,v=>aB I (.bool b) v
 |.str s,v=>aB I (.str s) v
 |.lst f xs,v=>aB I (.lst f xs) v
 |.cV cs,v=>aB I (.cV cs) v
 |.bI,v=>aB I .bI v
 |.lC,v=>aB I .lC v
 |.cfn f cap,v=>aB I (.cfn f cap) v
 |.sl0,v=>aB I .sl0 v
 |.hnd k d,v=>k.rep (β d) v
 |.mpf aL,v=>aB I (.mpf aL) v
 |.arr xs,v=>aB I (.arr xs) v
def aW(I:Imm)(β:Nat→Value):List AV→List Value→Prop
 |[],vs=>vs=[]
 |x::r,vs=>∃u us,vs=u::us∧Rep I β x u∧aW I β r us
end
mutual
theorem cM{I I':Imm}(h:aQ I I'):∀(x:AV) (v:Value),aB I x v→aB I' x v
 |.dM,_,_=>trivial
 |.undef,_,r=>r
 |.int _ _,_,r=>r
 |.bool _,_,r=>r
 |.str _,_,r=>r
 |.lst full xs,v,r=>by
   simp only[aB]at r ⊢;obtain⟨a,c,h1,h2,h3,h4,h5⟩:=r;refine⟨a,c,h1,h2,h3,h4,?_⟩;rcases h5 with h5|⟨b,o,h5,h6⟩
   ·exact .inl h5
   ·exact .inr ⟨b,o,h5,jy h xs b o h6⟩
 |.cV cs,v,r=>by
   simp only[aB]at r ⊢;obtain⟨b,o,h1,h2⟩:=r;exact⟨b,o,h1,tH h cs b o h2⟩
 |.agg cs,v,r=>by
   simp only[aB]at r ⊢;obtain⟨vs,h1,h2⟩:=r;exact⟨vs,h1,ef h cs _ h2⟩
 |.tup cs,v,r=>by
   simp only[aB]at r ⊢;obtain⟨vs,h1,h2⟩:=r;exact⟨vs,h1,ef h cs _ h2⟩
 |.fn f cap,v,r=>by
   simp only[aB]at r ⊢;obtain⟨vs,h1,h2⟩:=r;exact⟨vs,h1,ef h cap _ h2⟩
 |.bI,_,r=>r
 |.lC,_,r=>r
 |.own _,_,r=>r
 |.ptr _ _,_,r=>r
 |.bX _,_,r=>r
 |.cfn f cap,v,r=>by
   simp only[aB]at r ⊢;obtain⟨vs,h1,h2⟩:=r;exact⟨vs,h1,ef h cap _ h2⟩
 |.sl0,_,r=>by simp only[aB]at r ⊢;exact r
 |.hnd _ _,_,r=>r
 |.arr _,v,r=>by simpa only[aB]using r
 |.mpf aL,v,r=>by
   simp only[aB]at r ⊢;obtain⟨b,es,clock,h1,h2,h3,h4⟩:=r;exact⟨b,es,clock,h1,h _ _ _ h2,eo h aL _ h3,h4⟩
theorem eo{I I':Imm}(h:aQ I I'):∀(x:List (AV×AV)) (es:List MapEntry),cW I x es→cW I' x es
 |[],_,r=>r
 |(k,u)::x,es,r=>by
   simp only[cW]at r ⊢;obtain⟨e,us,h1,h2,h3,h4⟩:=r;exact⟨e,us,h1,cM h k _ h2,cM h u _ h3,eo h x us h4⟩
theorem ef{I I':Imm}(h:aQ I I'):∀(x:List AV) (v:List Value),aS I x v→aS I' x v
 |[],_,r=>r
 |x::xs,v,r=>by
   simp only[aS]at r ⊢;obtain⟨u,us,h1,h2,h3⟩:=r;exact⟨u,us,h1,cM h x u h2,ef h xs us h3⟩
theorem tH{I I':Imm}(h:aQ I I'):∀(x:List AV) (b o:Nat),fc I b x o→fc I' b x o
 |[],_,_,r=>r
 |x::xs,b,o,r=>by
   simp only[fc]at r ⊢;obtain⟨⟨u,h1,h2⟩,h3⟩:=r;exact⟨⟨u,h _ _ _ h1,cM h x u h2⟩,tH h xs b (o+1) h3⟩
theorem jy{I I':Imm}(h:aQ I I'):∀(x:List (List AV)) (b o:Nat),dg I b x o→dg I' b x o
 |[],_,_,r=>r
 |x::xs,b,o,r=>by
   simp only[dg]at r ⊢;exact⟨tH h x b o r.1,jy h xs b (o+x.length) r.2⟩
end
def HLe(β β':Nat→Value):Prop:=∀d,β d=.nilFunc∨β' d=β d
theorem HLe.refl(β:Nat→Value):HLe β β:=λ_=>.inr rfl
mutual
theorem ou{I I':Imm}{β β':Nat→Value}(h:aQ I I')(hb:HLe β β'):∀(x:AV) (v:Value),Rep I β x v→Rep I' β' x v
 |.dM,_,_=>trivial
 |.undef,v,r=>by simp only[Rep]at r ⊢;exact cM h _ v r
 |.int _ _,v,r=>by simp only[Rep]at r ⊢;exact cM h _ v r
 |.bool _,v,r=>by simp only[Rep]at r ⊢;exact cM h _ v r
 |.str _,v,r=>by simp only[Rep]at r ⊢;exact cM h _ v r
 |.lst _ _,v,r=>by simp only[Rep]at r ⊢;exact cM h _ v r
 |.cV _,v,r=>by simp only[Rep]at r ⊢;exact cM h _ v r
 |.bI,v,r=>by simp only[Rep]at r ⊢;exact cM h _ v r
 |.lC,v,r=>by simp only[Rep]at r ⊢;exact cM h _ v r
 |.cfn _ _,v,r=>by simp only[Rep]at r ⊢;exact cM h _ v r
 |.sl0,v,r=>by simp only[Rep]at r ⊢;exact cM h _ v r
 |.mpf _,v,r=>by simp only[Rep]at r ⊢;exact cM h _ v r
 |.arr _,v,r=>by simp only[Rep]at r ⊢;exact cM h _ v r
 |.agg cs,v,r=>by
   simp only[Rep]at r ⊢;obtain⟨vs,h1,h2⟩:=r;exact⟨vs,h1,iN h hb cs _ h2⟩
 |.tup cs,v,r=>by
   simp only[Rep]at r ⊢;obtain⟨vs,h1,h2⟩:=r;exact⟨vs,h1,iN h hb cs _ h2⟩
 |.fn f cap,v,r=>by
   simp only[Rep]at r ⊢;obtain⟨vs,h1,h2⟩:=r;exact⟨vs,h1,iN h hb cap _ h2⟩
 |.own d,v,r=>by
   simp only[Rep]at r ⊢;obtain⟨rfl,h2⟩:=r;rcases hb d with e|e
   ·rw[e]at h2;simp[fP]at h2
   ·exact⟨e.symm,h2⟩
 |.bX d,v,r=>by
   simp only[Rep]at r ⊢;obtain⟨rfl,h2⟩:=r;rcases hb d with e|e
   ·rw[e]at h2;simp[jS]at h2
   ·exact⟨e.symm,h2⟩
 |.ptr d off,v,r=>by
   simp only[Rep]at r ⊢;obtain⟨b,h1,h2⟩:=r;rcases hb d with e|e
   ·rw[e]at h1;simp[blk]at h1
   ·exact⟨b,by rw[e];exact h1,h2⟩
 |.hnd k d,v,r=>by
   simp only[Rep]at r ⊢;rcases hb d with e|e
   ·rw[e]at r;exact(Hk.aj8 r).elim
   ·rw[e];exact r
theorem iN{I I':Imm}{β β':Nat→Value}(h:aQ I I')(hb:HLe β β'):∀(x:List AV) (v:List Value),aW I β x v→aW I' β' x v
 |[],_,r=>r
 |x::xs,v,r=>by
   simp only[aW]at r ⊢;obtain⟨u,us,h1,h2,h3⟩:=r;exact⟨u,us,h1,ou h hb x u h2,iN h hb xs us h3⟩
end
mutual
def AV.refs(p:Nat→Bool):AV→Bool
 |.agg cs=>jX p cs
 |.tup cs=>jX p cs
 |.fn _ cs=>jX p cs
 |.own d=>p d
 |.ptr d _=>p d
 |.hnd _ d=>p d
 |.bX d=>p d
 |_=>false
def jX(p:Nat→Bool):List AV→Bool
 |[]=>false
 |x::r=>x.refs p||jX p r
end
mutual
theorem kP{I:Imm}{β β':Nat→Value}{p:Nat→Bool}(hb:∀d,p d=false→β' d=β d):∀(x:AV) (v:Value),x.refs p=false→Rep I β x v→Rep I β' x v
 |.dM,_,_,_=>trivial
 |.undef,v,_,r=>by simp only[Rep]at r ⊢;exact r
 |.int _ _,v,_,r=>by simp only[Rep]at r ⊢;exact r
 |.bool _,v,_,r=>by simp only[Rep]at r ⊢;exact r
 |.str _,v,_,r=>by simp only[Rep]at r ⊢;exact r
 |.lst _ _,v,_,r=>by simp only[Rep]at r ⊢;exact r
 |.cV _,v,_,r=>by simp only[Rep]at r ⊢;exact r
 |.bI,v,_,r=>by simp only[Rep]at r ⊢;exact r
 |.lC,v,_,r=>by simp only[Rep]at r ⊢;exact r
 |.cfn _ _,v,_,r=>by simp only[Rep]at r ⊢;exact r
 |.sl0,v,_,r=>by simp only[Rep]at r ⊢;exact r
 |.mpf _,v,_,r=>by simp only[Rep]at r ⊢;exact r
 |.arr _,v,_,r=>by simp only[Rep]at r ⊢;exact r
 |.agg cs,v,e,r=>by
   simp only[Rep,AV.refs]at r e ⊢;obtain⟨vs,h1,h2⟩:=r;exact⟨vs,h1,qH hb cs _ e h2⟩
 |.tup cs,v,e,r=>by
   simp only[Rep,AV.refs]at r e ⊢;obtain⟨vs,h1,h2⟩:=r;exact⟨vs,h1,qH hb cs _ e h2⟩
 |.fn f cap,v,e,r=>by
   simp only[Rep,AV.refs]at r e ⊢;obtain⟨vs,h1,h2⟩:=r;exact⟨vs,h1,qH hb cap _ e h2⟩
 |.own d,v,e,r=>by
   simp only[Rep,AV.refs]at r e ⊢;rw[hb d e];exact r
 |.bX d,v,e,r=>by
   simp only[Rep,AV.refs]at r e ⊢;rw[hb d e];exact r
 |.ptr d off,v,e,r=>by
   simp only[Rep,AV.refs]at r e ⊢;rw[hb d e];exact r
 |.hnd k d,v,e,r=>by
   simp only[Rep,AV.refs]at r e ⊢;rw[hb d e];exact r
theorem qH{I:Imm}{β β':Nat→Value}{p:Nat→Bool}(hb:∀d,p d=false→β' d=β d):∀(x:List AV) (v:List Value),jX p x=false→aW I β x v→aW I β' x v
 |[],_,_,r=>r
 |x::xs,v,e,r=>by
   simp only[aW,jX,Bool.or_eq_false_iff]at r e ⊢;obtain⟨u,us,h1,h2,h3⟩:=r;exact⟨u,us,h1,kP hb x u e.1 h2,qH hb xs us e.2 h3⟩
end
inductive Rw where
 |sl (T:TypeId) (sz:Nat) (xs:List (List AV))
 |mp (K E:TypeId) (aL:List (AV×AV))
inductive br where
 |cells (T:TypeId) (cs:List AV)
 |slice (T:TypeId) (sz:Nat) (xs:List (List AV)) (k:Nat) (fz:Bool)
 |map (K E:TypeId) (aL:List (AV×AV))
 |win (T:TypeId) (sz:Nat) (xs:List (List AV))
 |jA (K E:TypeId) (aL:List (AV×AV))
 |dI (es:Array MapEntry) (clock:Nat) (K E:TypeId) (aL:List (AV×AV))
 |iter (dm since c0:Nat) (seen:Array Nat)
 |hdr (dm n:Nat)
 |bun (els:List Rw)
 |b8 (T:TypeId) (e n:Nat) (hole:Option (Option Nat×Nat))
 |gh (K E:TypeId) (e:Nat) (keys:List AV) (hole:Option (Option Nat×Nat)) (fx:Option (Array MapEntry×Nat))
 |slm (T:TypeId) (xs:List (List AV)) (t:Nat)
 |vec (T:TypeId) (xs:List Int)
 |ei (es:Array MapEntry) (clock:Nat) (aL:List (AV×AV)) (seen:Array Nat)
abbrev Sto:=List (Nat×br)
def Sto.get:Sto→Nat→Option br
 |[],_=>none
 |(k,v)::r,n=>bif Nat.beq k n then some v else Sto.get r n
abbrev Env:=List (Nat×AV)
def Env.get:Env→Nat→AV
 |[],_=>.dM
 |(k,v)::r,n=>bif Nat.beq k n then v else Env.get r n
def Env.put(env:Env)(d:Option Nat)(v:AV):Env:=match d with|some t=>(t,v)::env|none=>env
theorem Env.aK(k:Nat)(v:AV)(r:Env)(n:Nat):Env.get ((k,v)::r) n=if k=n then v else Env.get r n:=by
 simp only[Env.get];by_cases h:k=n
 ·subst h;simp
 ·have:Nat.beq k n=false:=by rw[←Bool.not_eq_true,Nat.beq_eq];exact h
  simp[this,h]
theorem Sto.aK(k:Nat)(v:br)(r:Sto)(n:Nat):Sto.get ((k,v)::r) n=if k=n then some v else Sto.get r n:=by
 simp only[Sto.get];by_cases h:k=n
 ·subst h;simp
 ·have:Nat.beq k n=false:=by rw[←Bool.not_eq_true,Nat.beq_eq];exact h
  simp[this,h]
mutual
def jh:Value→AV
 |.int k n=>.int k n
 |.bool b=>.bool b
 |.string s=>.str s
 |.slice none 0 0=>.bI
 |.pointer none=>.lC
 |.agg ⟨cs⟩=>.agg (lq cs)
 |_=>.dM
def lq:List Value→List AV
 |[]=>[]
 |x::r=>jh x::lq r
end
mutual
theorem yG(I:Imm)(β:Nat→Value):∀v,Rep I β (jh v) v
 |.int k n=>by simp[jh,Rep,aB]
 |.bool b=>by simp[jh,Rep,aB]
 |.string s=>by simp[jh,Rep,aB]
 |.slice none 0 0=>by simp[jh,Rep,aB]
 |.slice none 0 (n+1)=>by simp[jh,Rep]
 |.slice none (m+1) n=>by simp[jh,Rep]
 |.slice (some a) m n=>by simp[jh,Rep]
 |.pointer none=>by simp[jh,Rep,aB]
 |.pointer (some a)=>by simp[jh,Rep]
 |.agg ⟨cs⟩=>by simp only[jh,Rep];exact⟨_,rfl,s4 I β cs⟩
 |.float _ _=>by simp[jh,Rep]
 |.complex _ _ _=>by simp[jh,Rep]
 |.map _=>by simp[jh,Rep]
 |.chan _=>by simp[jh,Rep]
 |.func _ _ _=>by simp[jh,Rep]
 |.nilFunc=>by simp[jh,Rep]
 |.iface _ _=>by simp[jh,Rep]
 |.nilIface=>by simp[jh,Rep]
 |.tuple _=>by simp[jh,Rep]
theorem s4(I:Imm)(β:Nat→Value):∀vs,aW I β (lq vs) vs
 |[]=>by simp[lq,aW]
 |x::r=>by simp only[lq,aW];exact⟨x,r,rfl,yG I β x,s4 I β r⟩
end
def Env.ev(env:Env):Operand→AV
 |.tmp t=>env.get t
 |.const v=>jh v
 |.func f=>.fn f []
 |.global _=>.dM
structure Gl where
 P:Program
 N:Nat
 ids:List Nat
structure Cx where
 B:Nat
 w0:World
 I0:Imm
 bl:List Nat
 β0:Nat→Value
def Place(cx:Cx)(b:Nat):Prop:=cx.B≤b∨b∈cx.bl
def ia(cx:Cx)(I:Imm)(w:World):Rw→Value→Prop
 |.sl T sz xs,v=>(v=.slice none 0 0∧xs=[])∨
   ∃b cap arr,v=.slice (some ⟨b,0,none⟩) xs.length cap∧xs.length≤cap∧cap≤maxLen∧w.heap[b]?=some (.cells arr T (0,0))∧arr.size=cap*sz∧
    aS I xs.flatten (arr.toList.take (xs.length*sz))∧(∀e∈xs,e.length=sz)∧(∀o:Nat,I b o=none)∧Place cx b
 |.mp _ _ aL,v=>∃r es clock,v=.map (some r)∧w.heap[r]?=some (.map es clock)∧cW I aL es.toList∧(∀o,I r o=none)∧Place cx r∧gv es clock
def eD(cx:Cx)(I:Imm)(w:World):List Rw→List Value→Prop
 |[],vs=>vs=[]
 |x::r,vs=>∃u us,vs=u::us∧ia cx I w x u∧(∀b,blk u=some b→b∉us.filterMap blk)∧eD cx I w r us
def eW(β:Nat→Value)(hs as:List Value):Option (Option Nat×Nat)→Prop
 |none=>as=hs
 |some (none,_)=>as=hs
 |some (some i,t)=>i<hs.length∧β t≠.nilFunc∧as=hs.set i (β t)
def iK(I:Imm):List AV→List Value→List MapEntry→Prop
 |[],vs,es=>vs=[]∧es=[]
 |k::ks,vs,es=>∃v us e fs,vs=v::us∧es=e::fs∧aB I k e.key∧e.val=v∧iK I ks us fs
def aj(cx:Cx)(I:Imm)(β:Nat→Value)(w:World)(d:Nat):br→Prop
  |.cells T cs=>β d=.nilFunc∨∃b arr,β d=.pointer (some ⟨b,0,none⟩)∧w.heap[b]?=some (.cells arr T (0,0))∧aW I β cs arr.toList∧(∀o,I b o=none)∧Place cx b
  |.slice T sz xs k fz=>β d=.nilFunc∨(β d=.slice none 0 0∧xs=[]∧k=0)∨
      ∃b cap arr,β d=.slice (some ⟨b,0,none⟩) xs.length cap∧xs.length≤cap∧cap≤maxLen∧w.heap[b]?=some (.cells arr T (0,0))∧arr.size=cap*sz∧
        aS I xs.flatten (arr.toList.take (xs.length*sz))∧(∀e∈xs,e.length=sz)∧k≤xs.length∧
        (fz=true→∀o,o<xs.length*sz→I b o=arr[o]?)∧(∀o,k*sz≤o→I b o=none)∧Place cx b
  |.map _ _ aL=>β d=.nilFunc∨∃r es clock,β d=.map (some r)∧w.heap[r]?=some (.map es clock)∧cW I aL es.toList∧(∀o,I r o=none)∧Place cx r∧gv es clock
  |.jA _ _ aL=>β d=.nilFunc∨∃r es clock,β d=.map (some r)∧I r none=some (lg es clock)∧cW I aL es.toList∧Place cx r∧gv es clock
  |.dI es clock _ _ aL=>β d=.nilFunc∨∃r,β d=.map (some r)∧w.heap[r]?=some (.map es clock)∧cW I aL es.toList∧(∀o,I r o=none)∧Place cx r∧gv es clock
  |.iter dm since c0 seen=>β d=.nilFunc∨∃r bm,β d=.pointer (some ⟨r,0,none⟩)∧blk (β dm)=some bm∧w.heap[r]?=some (.mapIter (some bm) since seen c0)∧(∀o,I r o=none)∧Place cx r
  |.hdr dm n=>β d=.pointer none∧∃a c,β dm=.slice a n c
  |.bun els=>β d=.nilFunc∨∃hs:Array Value,β d=.tuple hs∧eD cx I w els hs.toList
  |.b8 T e n hole=>β d=.nilFunc∨∃b cap arr hs,β d=.slice (some ⟨b,0,none⟩) n cap∧n≤cap∧cap≤maxLen∧w.heap[b]?=some (.cells arr T (0,0))∧arr.size=cap∧
        β e=.tuple hs∧hs.size=n∧eW β hs.toList (arr.toList.take n) hole∧(∀o:Nat,I b o=none)∧Place cx b
  |.gh _ _ e keys hole fx=>β d=.nilFunc∨∃r es clock hs as,β d=.map (some r)∧w.heap[r]?=some (.map es clock)∧β e=.tuple hs∧eW β hs.toList as hole∧iK I keys as es.toList∧
        (∀o,I r o=none)∧Place cx r∧gv es clock∧(∀q,fx=some q→q=(es,clock))
  |.slm T xs t=>β d=.nilFunc∨∃b cap arr,β d=.slice (some ⟨b,0,none⟩) (xs.length+1) cap∧xs.length+1≤cap∧cap≤maxLen∧w.heap[b]?=some (.cells arr T (0,0))∧arr.size=cap∧
        aS I xs.flatten (arr.toList.take xs.length)∧(∀e∈xs,e.length=1)∧arr[xs.length]?=some (β t)∧β t≠.nilFunc∧(∀o:Nat,I b o=none)∧Place cx b
  |.vec T xs=>β d=.nilFunc∨∃b arr,β d=.pointer (some ⟨b,0,none⟩)∧w.heap[b]?=some (.cells arr T (0,0))∧arr.toList=xs.map (Value.int .i64)∧(∀o,I b o=none)∧Place cx b
  |.ei es clock aL seen=>β d=.nilFunc∨∃r bm,β d=.pointer (some ⟨r,0,none⟩)∧w.heap[r]?=some (.mapIter (some bm) clock seen clock)∧I bm none=some (lg es clock)∧cW I aL es.toList∧gv es clock∧(∀o,I r o=none)∧Place cx r
  |.win T sz xs=>β d=.nilFunc∨(β d=.slice none 0 0∧xs=[])∨
      ∃b o0 cap arr,β d=.slice (some ⟨b,o0,none⟩) xs.length cap∧xs.length≤cap∧cap≤maxLen∧w.heap[b]?=some (.cells arr T (0,0))∧(xs.length<cap→o0+cap*sz≤arr.size)∧
        dg I b xs o0∧(∀e∈xs,e.length=sz)∧(xs.length<cap→∀o,o0+xs.length*sz≤o→I b o=none)∧Place cx b
variable {as hs:List Value}{hole:Option (Option Nat×Nat)}{β:Nat→Value}
theorem eW.len(h:eW β hs as hole):as.length=hs.length:=by
 cases hole with
 |none=>rw[show as=hs from h]
 |some q=>
  obtain⟨i,t⟩:=q;cases i with
  |none=>rw[show as=hs from h]
  |some i=>obtain⟨_,_,h⟩:=h;rw[h,List.length_set]
variable {cx:Cx}{w:World}
theorem ia.go{cx':Cx}{I':Imm}{w':World}{x:Rw}{v:Value}(hle:aQ I I')(hb:∀b,blk v=some b→(b<w.heap.size→w'.heap[b]?=w.heap[b]?)∧(∀o,I' b o=I b o)∧(Place cx b→Place cx' b))(h:ia cx I w x v):ia cx' I' w' x v:=by
 cases x with
 |sl T sz xs=>
  rcases h with h|⟨b,cap,arr,h1,h2,h3,h4,h5,h6,h7,h8,h9⟩
  ·exact .inl h
  ·obtain⟨g1,g2,g3⟩:=hb b (by rw[h1];rfl);exact .inr ⟨b,cap,arr,h1,h2,h3,(g1 (Array.getElem?_eq_some_iff.1 h4).1).trans h4,h5,ef hle _ _ h6,h7,λo=>(g2 o).trans (h8 o),g3 h9⟩
 |mp K E aL=>
  obtain⟨r,es,clock,h1,h2,h3,h4,h5,h6⟩:=h;obtain⟨g1,g2,g3⟩:=hb r (by rw[h1];rfl);exact⟨r,es,clock,h1,(g1 (Array.getElem?_eq_some_iff.1 h2).1).trans h2,eo hle _ _ h3,λo=>(g2 o).trans (h4 o),g3 h5,h6⟩
theorem eD.go{cx cx':Cx}{I I':Imm}{w w':World}(hle:aQ I I'):∀{els:List Rw} {vs:List Value},(∀b∈vs.filterMap blk,(b<w.heap.size→w'.heap[b]?=w.heap[b]?)∧(∀o,I' b o=I b o)∧(Place cx b→Place cx' b))→eD cx I w els vs→eD cx' I' w' els vs
 |[],_,_,h=>h
 |x::r,vs,hb,h=>by
  obtain⟨u,us,rfl,h1,h2,h3⟩:=h;refine⟨u,us,rfl,h1.go hle λb hub=>hb b ?_,h2,eD.go hle (λb hb'=>hb b ?_) h3⟩
  ·simp[hub]
  ·rw[List.filterMap_cons];split
   ·exact hb'
   ·exact List.mem_cons_of_mem _ hb'
theorem iK.mono{I I':Imm}(hle:aQ I I'):∀{ks:List AV} {vs:List Value} {es:List MapEntry},iK I ks vs es→iK I' ks vs es
 |[],_,_,h=>h
 |k::ks,vs,es,h=>by
  obtain⟨v,us,e,fs,h1,h2,h3,h4,h5⟩:=h;exact⟨v,us,e,fs,h1,h2,cM hle k _ h3,h4,iK.mono hle h5⟩
variable {β':Nat→Value}
theorem eW.hle(hb:HLe β β')(h:eW β hs as hole):eW β' hs as hole:=by
 cases hole with
 |none=>exact h
 |some q=>
  obtain⟨i,t⟩:=q;cases i with
  |none=>exact h
  |some i=>
   obtain⟨h1,h2,h3⟩:=h;rcases hb t with e|e
   ·exact absurd e h2
   ·exact⟨h1,by rw[e];exact h2,by rw[e];exact h3⟩
theorem eW.beta(hb:∀i t,hole=some (i,t)→β' t=β t)(h:eW β hs as hole):eW β' hs as hole:=by
 cases hole with
 |none=>exact h
 |some q=>obtain⟨i,t⟩:=q;cases i<;>simp only[eW,hb _ t rfl]at h ⊢<;>exact h
theorem aj.heap{cx:Cx}{I:Imm}{β:Nat→Value}{w w':World}{d:Nat}{o:br}(e:w'.heap=w.heap)(h:aj cx I β w d o):aj cx I β w' d o:=by
 cases o with
 |bun els=>
  simp only[aj]at h ⊢;rcases h with q|⟨hs,q1,q2⟩
  ·exact .inl q
  ·exact .inr ⟨hs,q1,q2.go (aQ.refl I) λb _=>⟨λ_=>by rw[e],λ_=>rfl,id⟩⟩
 |_=>simpa only[aj,e]using h
def Imm.on(I:Imm)(f:Nat→Nat→Option Value):Imm:=λb o=>match o with
 |none=>I b none
 |some o=>f b o
structure aX(G:Gl)(cx:Cx)(I:Imm)(β:Nat→Value)(σ:Sto)(w:World):Prop where
 good:∀b (o:Nat) v,I b o=some v→w.cell? ⟨b,o,none⟩=some v
 dO:∀b v,I b none=some v→∃es clock,w.heap[b]?=some (.map es clock)∧v=lg es clock
 eX:aQ cx.I0 I
 fU:∀b,b<cx.B→b∉cx.bl→∀o,I b o=cx.I0 b o
 frame:∀b,b<cx.B→b∉cx.bl→w.heap[b]?=cx.w0.heap[b]?
 size:cx.B≤w.heap.size
 tape:w.tape=cx.w0.tape
 os:w.os=cx.w0.os
 output:w.output=cx.w0.output
 drawn:cx.w0.drawn≤w.drawn
 bB:∀d o,σ.get d=some o→aj cx I β w d o
 bQ:∀d d',(σ.get d).isSome→(σ.get d').isSome→d≠d'→∀b∈bY (β d),b∉bY (β d')
 keep:∀d∈G.ids,β d=cx.β0 d
variable {G:Gl}{σ:Sto}
theorem aX.sep(h:aX G cx I β σ w):∀d d',(σ.get d).isSome→(σ.get d').isSome→d≠d'→∀b,blk (β d)=some b→blk (β d')≠some b:=
 λd d' h1 h2 hne b hb hb'=>h.bQ d d' h1 h2 hne b (cR hb) (cR hb')
def gK(P:Program)(Φ:Value→World→Prop):Result Next→Prop
 |.ok (.value v) w'=>Φ v w'
 |.ok .skip w'=>Φ undef w'
 |.ok (.enter f args) w'=>Calls P f args w' (λe w''=>∃v,e=.returned v∧Φ v w'')
 |_=>False
theorem gK.wp{P:Program}{o:Oper}{a:Act}{w:World}{Φ:Value→World→Prop}{K:Act→World→Prop}{Q:Exit→Act→World→Prop}
  (h:gK P Φ ((execOp a.eval o).run P w)) (hk:∀v w',Φ v w'→K (a.put o.dst v) w'):o.wp P a w K Q:=by
 unfold Oper.wp;generalize (execOp a.eval o).run P w=r at h;cases r with
 |halt x w'=>exact h.elim
 |ok n w'=>
  cases n<;>simp only[gK]at h<;>simp only[Oper.upon]
  case value v=>exact hk _ _ h
  case skip=>exact hk _ _ h
  case enter f args=>
   exact Calls.mono h λe w'' ⟨v,he,hv⟩=>by subst he;exact hk _ _ hv
def Yields(G:Gl)(o:Oper)(ev:Operand→AV)(σ:Sto)(mat R:List Nat)(av:AV):Prop:=
 ∀(σ':Sto) (cx:Cx) (I:Imm) (β:Nat→Value) (w:World) (ρ:Operand→Value),(∀d∈R,σ'.get d=σ.get d)→aX G cx I β σ' w→(∀d∈mat,β d=.nilFunc)→
  (∀x∈o.op.operands,Rep I β (ev x) (ρ x))→
  gK G.P (λv w'=>∃I' β',Rep I' β' av v∧aX G cx I' β' σ' w'∧aQ I I'∧(∀d,d∉mat→β' d=β d)) ((execOp ρ o).run G.P w)
def dU(G:Gl)(o:Oper)(ev:Operand→AV)(σ:Sto)(M news:List Nat)(Φ:AV→Sto→Prop):Prop:=
 ∀(cx:Cx) (I:Imm) (β:Nat→Value) (w:World) (ρ:Operand→Value),aX G cx I β σ w→(∀x∈o.op.operands,Rep I β (ev x) (ρ x))→
  gK G.P (λv w'=>∃av σ' I' β',Φ av σ'∧Rep I' β' av v∧aX G cx I' β' σ' w'∧aQ I I'∧(∀d,d∉news→β' d=β d)∧(∀d,d∉M→σ'.get d=σ.get d)) ((execOp ρ o).run G.P w)
mutual
theorem wz{p:Nat→Bool}(h:∀d,p d=false):∀x:AV,x.refs p=false
 |.dM|.undef|.int _ _|.bool _|.str _|.lst _ _|.cV _|.bI|.lC|.cfn _ _|.sl0|.mpf _|.arr _=>rfl
 |.agg cs=>by simp only[AV.refs];exact jY h cs
 |.tup cs=>by simp only[AV.refs];exact jY h cs
 |.fn _ cs=>by simp only[AV.refs];exact jY h cs
 |.own d=>h d
 |.ptr d _=>h d
 |.hnd _ d=>h d
 |.bX d=>h d
theorem jY{p:Nat→Bool}(h:∀d,p d=false):∀x:List AV,jX p x=false
 |[]=>rfl
 |x::r=>by simp only[jX,wz h x,jY h r,Bool.or_self]
end
def Env.clean(p:Nat→Bool):Env→Bool
 |[]=>true
 |(_,v)::r=>!v.refs p&&Env.clean p r
def fV(p:Nat→Bool):br→Bool
 |.cells _ cs=>jX p cs
 |.iter dm _ _ _=>p dm
 |.hdr dm _=>p dm
 |.b8 _ e _ h=>p e||(match h with|some (_,t)=>p t|none=>false)
 |.gh _ _ e _ h _=>p e||(match h with|some (_,t)=>p t|none=>false)
 |.slm _ _ t=>p t
 |_=>false
def Sto.clean(p:Nat→Bool):Sto→Bool
 |[]=>true
 |(d,v)::r=>!p d&&!fV p v&&Sto.clean p r
theorem Env.cm{p:Nat→Bool}:∀{env:Env},env.clean p=true→∀t,(env.get t).refs p=false
 |[],_,t=>by simp[Env.get,AV.refs]
 |(k,v)::r,h,t=>by
   simp only[Env.clean,Bool.and_eq_true,Bool.not_eq_true']at h;rw[Env.aK];split
   ·exact h.1
   ·exact Env.cm h.2 t
theorem Sto.cm{p:Nat→Bool}:∀{σ:Sto},σ.clean p=true→∀d o,σ.get d=some o→p d=false∧fV p o=false
 |[],_,d,o,e=>by simp[Sto.get]at e
 |(k,v)::r,h,d,o,e=>by
   simp only[Sto.clean,Bool.and_eq_true,Bool.not_eq_true']at h;rw[Sto.aK]at e;split at e
   ·rename_i hk;subst hk;cases e;exact⟨h.1.1,h.1.2⟩
   ·exact Sto.cm h.2 d o e
theorem Env.gi(e:Env):e.clean ([]:List Nat).contains=true:=by
 induction e with
 |nil=>rfl
 |cons x r ih=>simp only[Env.clean,ih,wz (p:=([]:List Nat).contains) (λ_=>rfl) x.2,Bool.not_false,Bool.and_self]
theorem Sto.gi(e:Sto):e.clean ([]:List Nat).contains=true:=by
 induction e with
 |nil=>rfl
 |cons x r ih=>
  have:fV ([]:List Nat).contains x.2=false:=by
   obtain⟨d,o⟩:=x;cases o with
   |cells T cs=>exact jY (λ_=>rfl) _
   |b8 T e n h=>cases h<;>rfl
   |gh K E e keys h fx=>cases h<;>rfl
   |_=>rfl
  simp only[Sto.clean,ih,this];rfl
def amf:br→Bool
 |.hdr _ _=>false
 |_=>true
def uG(G:Gl)(σ:Sto)(mat:List Nat)(σ2:Sto)(env:Env):Prop:=
 (∀d,d∉mat→σ2.get d=σ.get d)∧(∀d∈mat,d∉G.ids)∧env.clean mat.contains=true∧σ.clean mat.contains=true∧∀d∈mat,∀dm n,σ2.get d≠some (.hdr dm n)
theorem uG.none(G:Gl)(σ:Sto)(env:Env):uG G σ [] σ env:=⟨λ_ _=>rfl,λ_ h=>by simp at h,Env.gi env,Sto.gi σ,λ_ h=>by simp at h⟩
def dP(β:Nat→Value)(mat:List Nat):Nat→Value:=λd=>if d∈mat then .nilFunc else β d
theorem aj.beta{d:Nat}{o:br}{p:Nat→Bool}(hb:∀d,p d=false→β' d=β d)(hd:p d=false)(he:fV p o=false)
  (h:aj cx I β w d o):aj cx I β' w d o:=by
 cases o with
 |cells T cs=>
  simp only[aj,hb d hd]at h ⊢;rcases h with h|⟨b,arr,h1,h2,h3,h4⟩
  ·exact .inl h
  ·exact .inr ⟨b,arr,h1,h2,qH hb cs _ he h3,h4⟩
 |slice T sz xs k fz=>simpa only[aj,hb d hd]using h
 |map K E aL=>simpa only[aj,hb d hd]using h
 |win T sz xs=>simpa only[aj,hb d hd]using h
 |jA K E aL=>simpa only[aj,hb d hd]using h
 |dI es clock K E aL=>simpa only[aj,hb d hd]using h
 |iter dm since c0 seen=>simpa only[aj,hb d hd,hb dm he]using h
 |hdr dm n=>simpa only[aj,hb d hd,hb dm he]using h
 |bun els=>simpa only[aj,hb d hd]using h
 |slm T xs t=>simpa only[aj,hb d hd,hb t he]using h
 |vec T xs=>simpa only[aj,hb d hd]using h
 |ei es clock aL seen=>simpa only[aj,hb d hd]using h
 |b8 T e n hole=>
  simp only[fV,Bool.or_eq_false_iff]at he
  have hh:∀hs as,eW β' hs as hole↔eW β hs as hole:=λhs as=>by
   cases hole with
   |none=>exact Iff.rfl
   |some q=>obtain⟨i,t⟩:=q;cases i<;>simp only[eW,hb t he.2]
  simpa only[aj,hb d hd,hb e he.1,hh]using h
 |gh K E e keys hole fx=>
  simp only[fV,Bool.or_eq_false_iff]at he
  have hh:∀hs as,eW β' hs as hole↔eW β hs as hole:=λhs as=>by
   cases hole with
   |none=>exact Iff.rfl
   |some q=>obtain⟨i,t⟩:=q;cases i<;>simp only[eW,hb t he.2]
  simpa only[aj,hb d hd,hb e he.1,hh]using h
theorem aX.ov{σ2:Sto}{mat:List Nat}{env:Env}(h:aX G cx I β σ w)(v:uG G σ mat σ2 env):
  aX G cx I (dP β mat) σ2 w:=by
 obtain⟨v1,v2,v3,v4,v5⟩:=v
 have hb:∀d,mat.contains d=false→dP β mat d=β d:=λd hd=>by
  have:d∉mat:=by simpa using hd
  simp[dP,this]
 have hn:∀d,d∈mat→dP β mat d=.nilFunc:=λd hd=>by simp[dP,hd]
 refine{h with bB:=λd o e=>?_,bQ:=λd d' e e' hne b=>?_,keep:=λd hd=>?_}
 ·by_cases hm:d∈mat
  ·cases o with
   |hdr dm n=>exact absurd e (v5 d hm dm n)
   |_=>simp only[aj];exact .inl (hn d hm)
  ·rw[v1 d hm]at e;obtain⟨c1,c2⟩:=Sto.cm v4 d o e;exact(h.bB d o e).beta hb c1 c2
 ·by_cases hm:d∈mat
  ·simp[hn d hm,sy]
  ·by_cases hm':d'∈mat
   ·simp[hn d' hm',sy]
   ·rw[v1 d hm]at e;rw[v1 d' hm']at e';rw[hb d (by simpa using hm),hb d' (by simpa using hm')];exact h.bQ d d' e e' hne b
 ·have:d∉mat:=λhm=>v2 d hm hd;rw[hb d (by simpa using this)];exact h.keep d hd
def Want(ops:Array Oper)(o:Oper)(env:Env):Prop:=
 match o.guard with
 |none=>True
 |some (j,want)=>∃oj dj,ops[j]?=some oj∧oj.dst=some dj∧env.get dj=.bool want
def jB(ops:Array Oper)(o:Oper)(env:Env):Prop:=
 match o.guard with
 |none=>False
 |some (j,want)=>∃oj dj,ops[j]?=some oj∧oj.dst=some dj∧(env.get dj=.bool (!want)∨env.get dj=.undef)
structure Sch where
 dr:Bool
 T:List (List Nat)
 es:List Nat
def nJ(s:Sch)(e:Nat)(M:List Nat):List (Nat×List Nat)→Bool
 |[]=>true
 |(i,R)::r=>((s.T.getD e []).contains i||R.all (λd=>!M.contains d))&&nJ s e M r
def Cert(G:Gl)(ops:Array Oper)(s:Sch):List (Nat×List Nat)→List Nat→Env→Sto→(Env→Sto→Prop)→Prop
 |_,[],env,σ,K=>K env σ
 |log,i::l,env,σ,K=>∃o,ops[i]?=some o∧
   ((jB ops o env∧(s.dr=true→i∉s.es)∧Cert G ops s ((i,[])::log) l (env.put o.dst .undef) σ K)∨
    (Want ops o env∧(s.dr=true→i∉s.es)∧∃mat R av σ2,uG G σ mat σ2 env∧(∀d∈R,(σ2.get d).isSome)∧(∀d∈mat,d∈R)∧Yields G o env.ev σ2 mat R av∧
     Cert G ops s ((i,R)::log) l (env.put o.dst av) σ2 K)∨
    (Want ops o env∧(s.dr=true→i∈s.es)∧∃M news Φ,dU G o env.ev σ M news Φ∧(s.dr=true→nJ s i M log=true)∧env.clean news.contains=true∧(∀d∈news,d∉G.ids∧σ.get d=none)∧
     ∀av σ',Φ av σ'→Cert G ops s log l (env.put o.dst av) σ' K)∨
    (jB ops o env∧(s.dr=true→i∈s.es)∧Cert G ops s log l (env.put o.dst .undef) σ K))
def jc(I:Imm)(β:Nat→Value)(env:Env)(a:Act):Prop:=∀t,Rep I β (env.get t) (a.tmps.getD t undef)
theorem jc.ev{I:Imm}{β:Nat→Value}{env:Env}{a:Act}(h:jc I β env a)(x:Operand):Rep I β (env.ev x) (a.eval x):=by
 cases x with
 |tmp t=>exact h t
 |const v=>exact yG I β v
 |global g=>simp[Env.ev,Rep]
 |func f=>simp[Env.ev,Act.eval,Rep,aW]
theorem sB(a:Act)(d:Nat)(v:Value)(t:Nat)(hd:d<a.tmps.size):(a.put (some d) v).tmps.getD t undef=if d=t then v else a.tmps.getD t undef:=by
 simp only[Act.put];by_cases h:d=t
 ·subst h;simp[Array.getD_eq_getD_getElem?,hd]
 ·simp[h,Array.getD_eq_getD_getElem?,Array.getElem?_setIfInBounds_ne h]
end
section
def o6(G:Gl)(cx:Cx)(env:Env)(σ:Sto)(a:Act)(w:World):Prop:=
 ∃I β,aX G cx I β σ w∧jc I β env a∧a.tmps.size=G.N∧a.defers=[]
theorem abf{G:Gl}{ops:Array Oper}{o:Oper}{env:Env}{a:Act}(hs:a.tmps.size=G.N)(hN:∀(j:Nat) (oj:Oper) (d:Nat),ops[j]?=some oj→oj.dst=some d→d<G.N)
  (hr:∀(j:Nat) (want:Bool),o.guard=some (j,want)→∀(oj:Oper) (dj:Nat),ops[j]?=some oj→oj.dst=some dj→∀b,(env.get dj=.bool b→a.tmps.getD dj undef=.bool b)∧(env.get dj=.undef→a.tmps.getD dj undef=undef)) :
  (Want ops o env→Region.wanted o (yielded ops a.tmps)=true)∧(jB ops o env→Region.wanted o (yielded ops a.tmps)=false):=by
 unfold Want jB Region.wanted;cases hg:o.guard with
 |none=>exact⟨λ_=>rfl,λh=>h.elim⟩
 |some jw=>
  obtain⟨j,want⟩:=jw
  have key:∀(oj:Oper) (dj:Nat),ops[j]?=some oj→oj.dst=some dj→∀v,a.tmps.getD dj undef=v→yielded ops a.tmps j=(match v with|.bool b=>some b|_=>none):=by
   intro oj dj h1 h2 v hv;have hlt:=hN j oj dj h1 h2;have:a.tmps[dj]?=some v:=by
    rw[Array.getD_eq_getD_getElem?]at hv;have h3:dj<a.tmps.size:=by omega
    rw[Array.getElem?_eq_getElem h3]at hv ⊢;simpa using hv
   unfold yielded;simp only[h1,Option.bind_some,h2,this];cases v<;>rfl
  constructor
  ·rintro⟨oj,dj,h1,h2,h3⟩;have:=(hr j want hg oj dj h1 h2 want).1 h3;simp only[key oj dj h1 h2 _ this];simp
  ·rintro⟨oj,dj,h1,h2,h3⟩;rcases h3 with h3|h3
   ·have:=(hr j want hg oj dj h1 h2 (!want)).1 h3;simp only[key oj dj h1 h2 _ this];cases want<;>rfl
   ·have:=(hr j want hg oj dj h1 h2 want).2 h3;simp only[key oj dj h1 h2 _ this];rfl
theorem jc.guard{I:Imm}{β:Nat→Value}{env:Env}{a:Act}(h:jc I β env a)(d:Nat)(b:Bool):
  (env.get d=.bool b→a.tmps.getD d undef=.bool b)∧(env.get d=.undef→a.tmps.getD d undef=undef):=by
 have:=h d;constructor<;>intro e<;>rw[e]at this<;>simpa [Rep,aB]using this
theorem jc.put{I:Imm}{β:Nat→Value}{env:Env}{a:Act}{av:AV}{v:Value}(h:jc I β env a)(dst:Option Nat)(hd:∀d,dst=some d→d<a.tmps.size)(hv:Rep I β av v):
  jc I β (env.put dst av) (a.put dst v):=by
 cases dst with
 |none=>exact h
 |some d=>
  intro t;rw[sB a d v t (hd d rfl)];simp only[Env.put,Env.aK];split
  ·exact hv
  ·exact h t
theorem size_put(a:Act)(dst:Option Nat)(v:Value):(a.put dst v).tmps.size=a.tmps.size:=by
 cases dst<;>simp[Act.put]
theorem jZ(a:Act)(dst:Option Nat)(v:Value):(a.put dst v).defers=a.defers:=by
 cases dst<;>simp[Act.put]
theorem jc.mono{I I':Imm}{β β':Nat→Value}{env:Env}{a:Act}(h:jc I β env a)(hi:aQ I I')(hb:HLe β β'):jc I' β' env a:=
 λt=>ou hi hb _ _ (h t)
theorem jc.beta{I:Imm}{β β':Nat→Value}{env:Env}{a:Act}{p:Nat→Bool}(h:jc I β env a)(hb:∀d,p d=false→β' d=β d)(hc:env.clean p=true):jc I β' env a:=
 λt=>kP hb _ _ (Env.cm hc t) (h t)
theorem uI(G:Gl)(ops:Array Oper)(s:Sch)(Q:Exit→Act→World→Prop)(hN:∀(j:Nat) (oj:Oper) (d:Nat),ops[j]?=some oj→oj.dst=some d→d<G.N)(K:Env→Sto→Prop)(cx:Cx)
  (hK:∀env σ a w,K env σ→o6 G cx env σ a w→Q .normal a w) :
  ∀(l:List Nat) (log:List (Nat×List Nat)) (env:Env) (σ:Sto) (a:Act) (w:World),Cert G ops s log l env σ K→o6 G cx env σ a w→wpOps G.P ops Q l a w
 |[],log,env,σ,a,w,h,hr=>hK _ _ _ _ h hr
 |i::l,log,env,σ,a,w,h,hr=>by
  obtain⟨o,ho,h⟩:=h;have wB:∀d,o.dst=some d→d<a.tmps.size:=λd hd=>by obtain⟨_,_,_,_,h3,_⟩:=hr;rw[h3];exact hN i o d ho hd
  simp only[wpOps,ho];obtain⟨I,β,hw,ht,hs,hdf⟩:=hr;have aem:=abf (o:=o) (env:=env) hs hN (λj want _ oj dj _ _ b=>ht.guard dj b)
  have skip:∀log,jB ops o env→Cert G ops s log l (env.put o.dst .undef) σ K→
    if Region.wanted o (yielded ops a.tmps)=true then o.wp G.P a w (wpOps G.P ops Q l) Q∨o.asks G.P a w∧LetsOut Q else wpOps G.P ops Q l (a.put o.dst undef) w:=by
   intro log hsk h;rw[aem.2 hsk];simp only[Bool.false_eq_true,if_false];exact uI G ops s Q hN K cx hK l _ _ _ _ _ h ⟨I,β,hw,ht.put _ wB (by simp[Rep,aB]),by rw[size_put];exact hs,by rw[jZ];exact hdf⟩
  rcases h with⟨h1,_,h2⟩|⟨h1,_,mat,R,av,σ2,hv,hR,hM,hY,h2⟩|⟨h1,_,M,news,Φ,hD,_,hc,hnew,h2⟩|⟨h1,_,h2⟩
  ·exact skip _ h1 h2
  ·rw[aem.1 h1];simp only[if_true];refine .inl (gK.wp (Φ:=λv w'=>∃I' β',Rep I' β' av v∧aX G cx I' β' σ2 w'∧aQ I I'∧(∀d,d∉mat→β' d=dP β mat d)) ?_ ?_)
   ·have hw2:=hw.ov hv
    have hb:∀d,mat.contains d=false→dP β mat d=β d:=λd hd=>by
     have:d∉mat:=by simpa using hd
     simp[dP,this]
    exact hY σ2 cx I (dP β mat) w a.eval (λ_ _=>rfl) hw2 (λd hd=>by simp[dP,hd]) (λx _=>(ht.beta hb hv.2.2.1).ev x)
   ·rintro v w' ⟨I',β',hav,hw',hle,hbb⟩
    have hb:∀d,mat.contains d=false→dP β mat d=β d:=λd hd=>by
     have:d∉mat:=by simpa using hd
     simp[dP,this]
    have hh:HLe (dP β mat) β':=λd=>by
     by_cases hm:d∈mat
     ·left;simp[dP,hm]
     ·right;exact hbb d hm
    exact uI G ops s Q hN K cx hK l _ _ _ _ _ h2 ⟨I',β',hw',((ht.beta hb hv.2.2.1).mono hle hh).put _ wB hav,by rw[size_put];exact hs,by rw[jZ];exact hdf⟩
  ·rw[aem.1 h1];simp only[if_true];refine .inl (gK.wp (hD cx I β w a.eval hw (λx _=>ht.ev x)) ?_);rintro v w' ⟨av,σ',I',β',hΦ,hav,hw',hle,hbb,_⟩;have ht':jc I' β' env a:=(ht.beta (p:=news.contains) (λd hd=>hbb d (by simpa using hd)) hc).mono hle (HLe.refl _);exact uI G ops s Q hN K cx hK l _ _ _ _ _ (h2 av σ' hΦ) ⟨I',β',hw',ht'.put _ wB hav,by rw[size_put];exact hs,by rw[jZ];exact hdf⟩
  ·exact skip _ h1 h2
def rK(N:Nat)(ops:Array Oper):Bool:=ops.toList.all λo=>match o.dst with|some d=>Nat.blt d N|none=>true
theorem zo{N:Nat}{ops:Array Oper}(h:rK N ops=true):∀(j:Nat) (oj:Oper) (d:Nat),ops[j]?=some oj→oj.dst=some d→d<N:=by
 intro j oj d hj hd;have hm:oj∈ops.toList:=by simpa using Array.mem_of_getElem? hj
 have:=List.all_eq_true.1 h oj hm;simp only[hd]at this;exact(Iff.of_eq Nat.blt_eq).1 this
def looks(ops:Array Oper)(o:Oper)(t:Nat):Bool:=(o.looksAt ops).contains t
def abW(s:Sch)(i j:Nat)(oi oj:Oper)(ops:Array Oper):Bool:=
 match oi.dst with
 |none=>true
 |some t=>
  (i==j&&(s.es.contains i||!looks ops oj t)) ||
  (!(i==j)&&(!(looks ops oj t)||(s.T.getD j []).contains i||(s.es.contains i&&(s.T.getD i []).contains j)) &&
   (!(oj.dst==some t)||(s.es.contains i&&s.es.contains j&&((s.T.getD j []).contains i||(s.T.getD i []).contains j))))
def nK(s:Sch):List Nat→Bool
 |[]=>true
 |i::l=>l.all (λj=>!(s.T.getD i []).contains j&&!(i==j)&&(!s.es.contains i||(s.T.getD j []).contains i))&&nK s l
def aen(ops:Array Oper)(T:List (List Nat)):Bool:=
 (List.range ops.size).all λj=>match ops[j]? with
  |none=>false
  |some oj=>oj.after.toList.all (λe=>!Region.binds .any e||Nat.blt e.on j) &&
    (T.getD j []).all λi=>oj.after.toList.any λe=>Region.binds .any e&&(e.on==i||(T.getD e.on []).contains i)
def zq(N:Nat)(ops:Array Oper)(s:Sch)(l:List Nat):Bool:=
 rK N ops&&aen ops s.T&&nK s l&&(List.range ops.size).all (λi=>l.contains i)&&l.all (λi=>Nat.blt i ops.size)&&(s.T.length==ops.size) &&
 (List.range ops.size).all λi=>(List.range ops.size).all λj=>match ops[i]?,ops[j]? with
  |some oi,some oj=>abW s i j oi oj ops
  |_,_=>true
section any
variable {G:Gl}{ops:Array Oper}{s:Sch}
structure Stat(G:Gl)(ops:Array Oper)(s:Sch):Prop where
 dst:∀(j:Nat) (oj:Oper) (d:Nat),ops[j]?=some oj→oj.dst=some d→d<G.N
 down:∀(j:Nat) (oj:Oper),ops[j]?=some oj→∀e∈oj.after,Region.binds .any e=true→e.on<j
 tab:∀(j:Nat) (oj:Oper),ops[j]?=some oj→∀i∈s.T.getD j [],∃e∈oj.after,Region.binds .any e=true∧(e.on=i∨i∈s.T.getD e.on [])
 size:s.T.length=ops.size
 read:∀(i j:Nat) (oi oj:Oper) (t:Nat),ops[i]?=some oi→ops[j]?=some oj→oi.dst=some t→i≠j→looks ops oj t=true→i∈s.T.getD j []∨(i∈s.es∧j∈s.T.getD i [])
 self:∀(j:Nat) (oj:Oper) (t:Nat),ops[j]?=some oj→oj.dst=some t→j∉s.es→looks ops oj t=false
 one:∀(i j:Nat) (oi oj:Oper) (t:Nat),ops[i]?=some oi→ops[j]?=some oj→oi.dst=some t→oj.dst=some t→i≠j→i∈s.es∧j∈s.es
theorem Stat.of{l:List Nat}(h:zq G.N ops s l=true):Stat G ops s∧nK s l=true∧(∀i,i<ops.size↔i∈l):=by
 simp only[zq,Bool.and_eq_true,List.all_eq_true,List.mem_range,beq_iff_eq]at h;obtain⟨⟨⟨⟨⟨⟨h1,h2⟩,h3⟩,h4⟩,h5⟩,h6⟩,h7⟩:=h;refine⟨{dst:=zo h1,down:=?_,tab:=?_,size:=h6,read:=?_,self:=?_,one:=?_},h3,λi=>⟨λhi=>by simpa using h4 i hi,λhi=>(Iff.of_eq Nat.blt_eq).1 (h5 i hi)⟩⟩
 ·intro j oj hj e he hb;have hjs:j<ops.size:=(Array.getElem?_eq_some_iff.1 hj).1;simp only[aen,List.all_eq_true,List.mem_range]at h2;have:=h2 j hjs;simp only[hj,Bool.and_eq_true,List.all_eq_true]at this;have:=this.1 e (by simpa using he);simp only[hb,Bool.not_true,Bool.false_or]at this;exact(Iff.of_eq Nat.blt_eq).1 this
 ·intro j oj hj i hi;have hjs:j<ops.size:=(Array.getElem?_eq_some_iff.1 hj).1;simp only[aen,List.all_eq_true,List.mem_range]at h2;have:=h2 j hjs;simp only[hj,Bool.and_eq_true,List.all_eq_true]at this;have:=this.2 i hi;simp only[List.any_eq_true,Bool.and_eq_true,Bool.or_eq_true,beq_iff_eq]at this;obtain⟨e,he,hb,hh⟩:=this;exact⟨e,by simpa using he,hb,by simpa using hh⟩
 ·intro i j oi oj t hi hj hd hne hl;have:=h7 i (Array.getElem?_eq_some_iff.1 hi).1 j (Array.getElem?_eq_some_iff.1 hj).1;have hb:(i==j)=false:=by simpa using hne
  simp only[hi,hj,abW,hd,hb,hl,Bool.not_true,Bool.not_false,Bool.true_and,Bool.false_and,Bool.false_or,Bool.or_eq_true,Bool.and_eq_true,false_or]at this;have:=this.1;simpa using this
 ·intro j oj t hj hd hes;have:=h7 j (Array.getElem?_eq_some_iff.1 hj).1 j (Array.getElem?_eq_some_iff.1 hj).1;simp only[hj,abW,hd,BEq.rfl,Bool.true_and,Bool.not_true,Bool.false_and,Bool.or_false,Bool.or_eq_true,List.contains_iff_mem,hes,false_or,Bool.not_eq_true']at this;exact this
 ·intro i j oi oj t hi hj hd hd' hne;have:=h7 i (Array.getElem?_eq_some_iff.1 hi).1 j (Array.getElem?_eq_some_iff.1 hj).1;have hb:(i==j)=false:=by simpa using hne
  simp only[hi,hj,abW,hd,hd',hb,Bool.not_false,Bool.true_and,Bool.false_and,Bool.false_or,Bool.or_eq_true,Bool.and_eq_true,false_or,BEq.rfl,Bool.not_true,Bool.false_eq_true]at this;have:=this.2;simp only[List.contains_iff_mem]at this;exact⟨this.1.1,this.1.2⟩
def aeo(G:Gl)(ops:Array Oper)(s:Sch)(env:Env)(σ:Sto)(β:Nat→Value)(log:List (Nat×List Nat))(i:Nat)(mat:List Nat):Prop:=
 ∃o av,ops[i]?=some o∧i∉s.es∧(∀t,o.dst=some t→env.get t=av)∧
  ((jB ops o env∧av=.undef∧mat=[])∨
   (Want ops o env∧∃R,Yields G o env.ev σ mat R av∧(i,R)∈log∧(∀d∈R,(σ.get d).isSome)∧(∀d∈mat,d∈R∧β d=.nilFunc∧d∉G.ids)))
def sC(I:Imm)(β:Nat→Value)(ops:Array Oper)(dw:List Nat)(env:Env)(a:Act):Prop:=
 ∀t,(∀i∈dw,∀o,ops[i]?=some o→o.dst≠some t)→Rep I β (env.get t) (a.tmps.getD t undef)
theorem ng{listed:Array Bool}{j:Nat}:j∈Region.ready .any ops listed↔
  listed.getD j true=false∧∃o,ops[j]?=some o∧∀e∈o.after,Region.binds .any e=true→listed.getD e.on false=true:=mem_ready
theorem adX{listed:Array Bool}{i:Nat}(hi:i<listed.size)(b c:Bool):listed.getD i b=listed.getD i c:=by
 simp[Array.getD_eq_getD_getElem?,hi]
theorem o7(st:Stat G ops s){listed:Array Bool}(hsz:listed.size=ops.size)
  (hcl:∀j,listed.getD j false=true→∀i∈s.T.getD j [],listed.getD i false=true) {j:Nat} (hj:j∈Region.ready .any ops listed) :
  ∀i∈s.T.getD j [],listed.getD i false=true:=by
 obtain⟨_,o,ho,hall⟩:=ng.1 hj;intro i hi;obtain⟨e,he,hb,h⟩:=st.tab j o ho i hi;rcases h with h|h
 ·rw[←h];exact hall e he hb
 ·exact hcl e.on (hall e he hb) i h
theorem ab9(st:Stat G ops s){listed:Array Bool}(hsz:listed.size=ops.size):∀(n j:Nat),j≤n→j<ops.size→listed.getD j true=false→Region.ready .any ops listed≠[]:=by
 intro n;induction n with
 |zero=>
  intro j hj hlt hun
  have:j∈Region.ready .any ops listed:=ng.2 ⟨hun,ops[j],Array.getElem?_eq_getElem hlt,λe he hb=>by
   have:=st.down j _ (Array.getElem?_eq_getElem hlt) e he hb;omega⟩
  exact List.ne_nil_of_mem this
 |succ n ih=>
  intro j hj hlt hun;by_cases hex:∃i,i<j∧listed.getD i true=false
  ·obtain⟨i,h1,h2⟩:=hex;exact ih i (by omega) (by omega) h2
  ·have:j∈Region.ready .any ops listed:=ng.2 ⟨hun,ops[j],Array.getElem?_eq_getElem hlt,λe he hb=>by
    have hd:=st.down j _ (Array.getElem?_eq_getElem hlt) e he hb;have:¬listed.getD e.on true=false:=λhh=>hex ⟨e.on,hd,hh⟩;rw[adX (by omega) false true];simpa using this⟩
   exact List.ne_nil_of_mem this
theorem Env.abg{env:Env}{dst:Option Nat}{av:AV}{x:Operand}(h:∀t,dst=some t→x≠.tmp t):(env.put dst av).ev x=env.ev x:=by
 cases dst with
 |none=>rfl
 |some d=>
  cases x with
  |tmp t=>simp only[Env.put,Env.ev,Env.aK];rw[if_neg (λe=>h d rfl (by rw[e]))]
  |_=>rfl
theorem Env.rL{env:Env}{dst:Option Nat}{av:AV}{t:Nat}(h:dst≠some t):(env.put dst av).get t=env.get t:=by
 cases dst with
 |none=>rfl
 |some d=>simp only[Env.put,Env.aK];rw[if_neg (λe=>h (by rw[e]))]
theorem yH{o:Oper}{t:Nat}(h:(Operand.tmp t)∈o.op.operands):looks ops o t=true:=by
 simp only[looks,List.contains_iff_mem,Oper.looksAt];exact List.mem_append_left _ (List.mem_filterMap.2 ⟨.tmp t,by simpa using h,rfl⟩)
theorem ya{o oj:Oper}{j:Nat}{want:Bool}{t:Nat}(hg:o.guard=some (j,want))(hj:ops[j]?=some oj)(ht:oj.dst=some t):looks ops o t=true:=by
 simp[looks,Oper.looksAt,hg,hj,ht]
theorem Yields.ev{o:Oper}{ev ev':Operand→AV}{σ:Sto}{mat R:List Nat}{av:AV}(h:∀x∈o.op.operands,ev' x=ev x)(hy:Yields G o ev σ mat R av):Yields G o ev' σ mat R av:=
 λσ' cx I β w ρ h1 h2 h3 h4=>hy σ' cx I β w ρ h1 h2 h3 (λx hx=>by rw[←h x hx];exact h4 x hx)
theorem Yields.sto{o:Oper}{ev:Operand→AV}{σ σ2:Sto}{mat R:List Nat}{av:AV}(h:∀d∈R,σ2.get d=σ.get d)(hy:Yields G o ev σ mat R av):Yields G o ev σ2 mat R av:=
 λσ' cx I β w ρ h1 h2 h3 h4=>hy σ' cx I β w ρ (λd hd=>(h1 d hd).trans (h d hd)) h2 h3 h4
theorem Want.put{o:Oper}{env:Env}{dst:Option Nat}{av:AV}(h:∀t,dst=some t→looks ops o t=false):(Want ops o env→Want ops o (env.put dst av))∧(jB ops o env→jB ops o (env.put dst av)):=by
 unfold Want jB;cases hg:o.guard with
 |none=>exact⟨id,id⟩
 |some jw=>
  obtain⟨j,want⟩:=jw;constructor<;>(rintro⟨oj,dj,h1,h2,h3⟩;refine⟨oj,dj,h1,h2,?_⟩;rw[Env.rL (λe=>by have:=h dj e;rw[ya hg h1 h2]at this;cases this)];exact h3)
theorem aeo.put{env:Env}{σ σ2:Sto}{β β2:Nat→Value}{log log2:List (Nat×List Nat)}{i:Nat}{mat:List Nat}{dst:Option Nat}{av:AV}(h:aeo G ops s env σ β log i mat)
  (hd:∀o,ops[i]?=some o→∀t,dst=some t→looks ops o t=false∧o.dst≠some t)
  (wC:∀x∈log,x∈log2) (hR:∀R,(i,R)∈log→∀d∈R,(σ.get d).isSome→σ2.get d=σ.get d) (hm:∀d∈mat,(σ.get d).isSome→β d=.nilFunc→β2 d=.nilFunc) :
  aeo G ops s (env.put dst av) σ2 β2 log2 i mat:=by
 obtain⟨o,av',ho,hes,hav,h⟩:=h;refine⟨o,av',ho,hes,λt ht=>?_,?_⟩
 ·rw[Env.rL (λe=>(hd o ho t e).2 ht)];exact hav t ht
 ·have hl:∀t,dst=some t→looks ops o t=false:=λt e=>(hd o ho t e).1;rcases h with⟨h1,h2⟩|⟨h1,R,hY,hl',hRs,hms⟩
  ·exact .inl ⟨(Want.put hl).2 h1,h2⟩
  ·refine .inr ⟨(Want.put hl).1 h1,R,?_,wC _ hl',λd hd'=>?_,λd hd'=>?_⟩
   ·refine(hY.ev λx hx=>?_).sto (λd hd'=>hR R hl' d hd' (hRs d hd'));exact Env.abg λt e hxt=>by have:=hl t e;rw[yH (hxt▸hx)]at this;cases this
   ·rw[hR R hl' d hd' (hRs d hd')];exact hRs d hd'
   ·obtain⟨q1,q2,q3⟩:=hms d hd';exact⟨q1,hm d hd' (hRs d q1) q2,q3⟩
theorem sC.ev{I:Imm}{β:Nat→Value}{dw:List Nat}{env:Env}{a:Act}(h:sC I β ops dw env a){o:Oper}
  (hp:∀i∈dw,∀oi,ops[i]?=some oi→∀t,oi.dst=some t→looks ops o t=false):∀x∈o.op.operands,Rep I β (env.ev x) (a.eval x):=by
 intro x hx;cases x with
 |tmp t=>
  refine h t λi hi oi hoi hd=>?_;have:=hp i hi oi hoi t hd;rw[yH hx]at this;cases this
 |const v=>exact yG I β v
 |global g=>simp[Env.ev,Rep]
 |func f=>simp[Env.ev,Act.eval,Rep,aW]
theorem sC.want{I:Imm}{β:Nat→Value}{dw:List Nat}{env:Env}{a:Act}(st:Stat G ops s)(hs:a.tmps.size=G.N)(h:sC I β ops dw env a){o:Oper}
  (hp:∀i∈dw,∀oi,ops[i]?=some oi→∀t,oi.dst=some t→looks ops o t=false) :
  (Want ops o env→Region.wanted o (yielded ops a.tmps)=true)∧(jB ops o env→Region.wanted o (yielded ops a.tmps)=false):=by
 refine abf hs st.dst λj want hg oj dj h1 h2 b=>?_
 have:=h dj λi hi oi hoi hd=>by
  have:=hp i hi oi hoi dj hd;rw[ya hg h1 h2]at this;cases this
 constructor<;>intro e<;>rw[e]at this<;>simpa [Rep,aB]using this
theorem sC.mono{I I':Imm}{β β':Nat→Value}{dw:List Nat}{env:Env}{a:Act}(h:sC I β ops dw env a)(hi:aQ I I')(hb:HLe β β'):sC I' β' ops dw env a:=
 λt ht=>ou hi hb _ _ (h t ht)
theorem sC.beta{I:Imm}{β β':Nat→Value}{p:Nat→Bool}{dw:List Nat}{env:Env}{a:Act}(h:sC I β ops dw env a)(hb:∀d,p d=false→β' d=β d)(hc:env.clean p=true):sC I β' ops dw env a:=
 λt ht=>kP hb _ _ (Env.cm hc t) (h t ht)
theorem zu{e:Nat}{M:List Nat}:∀{log:List (Nat×List Nat)},nJ s e M log=true→∀i R,(i,R)∈log→i∈s.T.getD e []∨∀d∈R,d∉M
 |[],_,_,_,hm=>by simp at hm
 |(k,S)::r,h,i,R,hm=>by
  simp only[nJ,Bool.and_eq_true,Bool.or_eq_true,List.contains_iff_mem,List.all_eq_true]at h;rcases List.mem_cons.1 hm with e|hm
  ·cases e;rcases h.1 with h1|h1
   ·exact .inl h1
   ·exact .inr λd hd=>by have:=h1 d hd;simpa using this
  ·exact zu h.2 i R hm
structure Inv(G:Gl)(ops:Array Oper)(s:Sch)(cx:Cx)(m:Nat→List Nat)(l dw:List Nat)(listed:Array Bool)(log:List (Nat×List Nat))(env:Env)(σ:Sto)(a:Act)(w:World)(I:Imm)(β:Nat→Value):Prop where
 lsz:listed.size=ops.size
 ord:nK s l=true
 qZ:∀i,i<ops.size→(listed.getD i true=false↔i∈dw∨i∈l)
 dis:∀i∈dw,i∉l
 nd:dw.Nodup
 pw:∀i∈dw,∀j∈l,j∉s.T.getD i []
 ps:∀i∈dw,i<ops.size
 ls:∀i∈l,i<ops.size
 cl:∀j,listed.getD j false=true→∀i∈s.T.getD j [],listed.getD i false=true
 pn:∀i∈dw,aeo G ops s env σ β log i (m i)
 md:∀i∈dw,∀j∈dw,i≠j→∀d∈m i,d∉m j
 rw:aX G cx I β σ w
 rp:sC I β ops dw env a
 sz:a.tmps.size=G.N
 df:a.defers=[]
theorem yI(listed:Array Bool)(i j:Nat)(b:Bool)(hi:i<listed.size):(listed.setIfInBounds i true).getD j b=if i=j then true else listed.getD j b:=by
 by_cases h:i=j
 ·subst h;simp[Array.getD_eq_getD_getElem?,hi]
 ·simp[h,Array.getD_eq_getD_getElem?,Array.getElem?_setIfInBounds_ne h]
section inv
variable {cx:Cx}{m:Nat→List Nat}{l dw:List Nat}{listed:Array Bool}{log:List (Nat×List Nat)}{env:Env}{σ:Sto}{a:Act}{w:World}{I:Imm}{β:Nat→Value}
theorem Inv.yJ(inv:Inv G ops s cx m l dw listed log env σ a w I β){i:Nat}(h:i∈dw∨i∈l):listed.getD i false=false:=by
 have hi:i<ops.size:=by rcases h with h|h<;>first|exact inv.ps i h|exact inv.ls i h
 rw[adX (by rw[inv.lsz];exact hi) false true];exact(inv.qZ i hi).2 h
theorem Inv.afJ(st:Stat G ops s)(inv:Inv G ops s cx m l dw listed log env σ a w I β){j:Nat}(hj:j∈Region.ready .any ops listed):
  ∀k,(listed.setIfInBounds j true).getD k false=true→∀i∈s.T.getD k [],(listed.setIfInBounds j true).getD i false=true:=by
 obtain⟨_,o,ho,_⟩:=ng.1 hj;have hjs:j<listed.size:=by rw[inv.lsz];exact(Array.getElem?_eq_some_iff.1 ho).1
 intro k hk i hi;rw[yI _ _ _ _ hjs]at hk ⊢;split
 ·rfl
 ·split at hk
  ·rename_i h;subst h;exact o7 st inv.lsz inv.cl hj i hi
  ·exact inv.cl k hk i hi
theorem Inv.uJ(st:Stat G ops s)(inv:Inv G ops s cx m l dw listed log env σ a w I β){j:Nat}{o:Oper}(hj:j∈Region.ready .any ops listed)(ho:ops[j]?=some o)(zv:j∈dw→j∉s.es):
  ∀i∈dw,∀oi,ops[i]?=some oi→∀t,oi.dst=some t→looks ops o t=false:=by
 intro i hi oi hoi t ht;rcases Bool.eq_false_or_eq_true (looks ops o t)with hl|hl
 ·exfalso;by_cases hij:i=j
  ·subst hij;have ho2:some oi=some o:=hoi.symm.trans ho;cases ho2;have:=st.self i o t hoi ht (zv hi);rw[this]at hl;cases hl
  ·rcases st.read i j oi o t hoi ho ht hij hl with h|⟨h,_⟩
   ·have:=o7 st inv.lsz inv.cl hj i h;rw[inv.yJ (.inl hi)]at this;cases this
   ·obtain⟨_,_,_,hes,_⟩:=inv.pn i hi;exact hes h
 ·exact hl
theorem Inv.acd(st:Stat G ops s)(inv:Inv G ops s cx m l dw listed log env σ a w I β){Q:Exit→Act→World→Prop}{K:Act→World→Prop}{j:Nat}(hj:j∈Region.ready .any ops listed)(hjp:j∈dw)
    (k:∀a' w' I' β',Inv G ops s cx m l (dw.erase j) (listed.setIfInBounds j true) log env σ a' w' I' β'→K a' w'):wpOp G.P ops Q j K a w:=by
  obtain⟨o,av,ho,hes,hav,h⟩:=inv.pn j hjp;have hjs:j<listed.size:=by rw[inv.lsz];exact inv.ps j hjp
  have hlp:=inv.uJ st hj ho (λ_=>hes);have hw:=inv.rp.want st inv.sz hlp;have wB:∀d,o.dst=some d→d<a.tmps.size:=λd hd=>by rw[inv.sz];exact st.dst j o d ho hd
  have next:∀v w' I' β',Rep I' β' av v→aX G cx I' β' σ w'→aQ I I'→(∀d,d∉m j→β' d=β d)→(∀d∈m j,β d=.nilFunc∨β' d=β d)→Inv G ops s cx m l (dw.erase j) (listed.setIfInBounds j true) log env σ (a.put o.dst v) w' I' β':=by
    intro v w' I' β' fD hw' hle hb hb2
    have hh:HLe β β':=λd=>by
      by_cases hd:d∈m j
      · exact hb2 d hd
      · exact .inr (hb d hd)
    refine{lsz:=by simp[inv.lsz],ord:=inv.ord,qZ:=λi hi=>?_,dis:=λi hi=>inv.dis i (List.mem_of_mem_erase hi),nd:=inv.nd.erase j,
           pw:=λi hi=>inv.pw i (List.mem_of_mem_erase hi),ps:=λi hi=>inv.ps i (List.mem_of_mem_erase hi),ls:=inv.ls,cl:=inv.afJ st hj,pn:=λi hi=>?_,
           md:=λi hi k hk=>inv.md i (List.mem_of_mem_erase hi) k (List.mem_of_mem_erase hk),rw:=hw',rp:=λt ht=>?_,sz:=by rw[size_put];exact inv.sz,df:=by rw[jZ];exact inv.df}
    · rw[yI _ _ _ _ hjs]
      by_cases hij:j=i
      · subst hij
        simp only[if_true,Bool.true_eq_false,false_iff,not_or];exact⟨λh=>(List.Nodup.mem_erase_iff inv.nd).1 h|>.1 rfl,inv.dis j hjp⟩
      · rw[if_neg hij,inv.qZ i hi,List.Nodup.mem_erase_iff inv.nd]
        constructor
        · rintro(h|h)
          · exact .inl ⟨λe=>hij e.symm,h⟩
          · exact .inr h
        · rintro(h|h)
          · exact .inl h.2
          · exact .inr h
    · have hip:=List.mem_of_mem_erase hi
      have hij:i≠j:=λe=>((List.Nodup.mem_erase_iff inv.nd).1 hi).1 e;obtain⟨oi,avi,q1,q2,q3,q4⟩:=inv.pn i hip;refine⟨oi,avi,q1,q2,q3,?_⟩;rcases q4 with q4|⟨q4,R,q5,q6,q7,q8⟩
      · exact .inl q4
      · refine .inr ⟨q4,R,q5,q6,q7,λd hd=>⟨(q8 d hd).1,?_,(q8 d hd).2.2⟩⟩
        rw[hb d (inv.md i hip j hjp hij d hd)];exact(q8 d hd).2.1
    · by_cases hto:o.dst=some t
      · rw[hto,sB a t v t (by rw[inv.sz];exact st.dst j o t ho hto),if_pos rfl,hav t hto]
        exact fD
      · have:(a.put o.dst v).tmps.getD t undef=a.tmps.getD t undef:=by
          cases hd:o.dst with
          |none=>rfl
          |some d=>rw[sB a d v t (wB d hd),if_neg (λe=>hto (by rw[hd,e]))]
        rw[this];refine ou hle hh _ _ (inv.rp t λi hi oi hoi=>?_);by_cases hij:i=j
        · subst hij
          rw[ho]at hoi;cases hoi;exact hto
        · exact ht i ((List.Nodup.mem_erase_iff inv.nd).2 ⟨hij,hi⟩) oi hoi
  unfold wpOp;simp only[ho];rcases h with⟨h1,h2⟩|⟨h1,R,hY,wC,hRs,hms⟩
  · rw[hw.2 h1]
    simp only[Bool.false_eq_true,if_false];exact k _ _ _ _ (next undef w I β (by rw[h2.1];simp[Rep,aB]) inv.rw (aQ.refl I) (λ_ _=>rfl) (λ_ _=>.inr rfl))
  · rw[hw.1 h1]
    simp only[if_true];refine .inl (gK.wp (hY σ cx I β w a.eval (λ_ _=>rfl) inv.rw (λd hd=>(hms d hd).2.1) (inv.rp.ev hlp)) ?_);rintro v w' ⟨I',β',fD,hw',hle,hb⟩;exact k _ _ _ _ (next v w' I' β' fD hw' hle hb (λd hd=>.inl (hms d hd).2.1))
theorem Inv.ov(st:Stat G ops s){i:Nat}(inv:Inv G ops s cx m (i::l) dw listed log env σ a w I β){o:Oper}(ho:ops[i]?=some o)(hes:i∉s.es){mat R:List Nat}{av:AV}{σ2:Sto}
    (hv:uG G σ mat σ2 env) (hp:(jB ops o env∧av=.undef∧mat=[])∨(Want ops o env∧Yields G o env.ev σ2 mat R av∧(∀d∈R,(σ2.get d).isSome)∧(∀d∈mat,d∈R))) :
    Inv G ops s cx (λk=>if k=i then mat else m k) l (i::dw) listed ((i,R)::log) (env.put o.dst av) σ2 a w I (dP β mat):=by
  have hip:i∉dw:=λh=>inv.dis i h (by simp);have o8:=inv.ord;simp only[nK,Bool.and_eq_true,List.all_eq_true,Bool.not_eq_true',List.contains_eq_mem,decide_eq_false_iff_not,beq_eq_false_iff_ne]at o8
  have hb:∀d,mat.contains d=false→dP β mat d=β d:=λd hd=>by
    have:d∉mat:=by simpa using hd
    simp[dP,this]
  have tX:∀d,(σ.get d).isSome→d∉mat:=λd hd hm=>by
    obtain⟨x,hx⟩:=Option.isSome_iff_exists.1 hd;have:=(Sto.cm hv.2.2.2.1 d x hx).1;simp[hm]at this
  have hm':∀p∈dw,(if p=i then mat else m p)=m p:=λp hp=>by
    have:p≠i:=λe=>by subst e;exact hip hp
    rw[if_neg this]
  refine{lsz:=inv.lsz,ord:=o8.2,qZ:=λk hk=>?_,dis:=λk hk hl=>?_,nd:=List.nodup_cons.2 ⟨hip,inv.nd⟩,pw:=λk hk j hj=>?_,ps:=λk hk=>?_,ls:=λk hk=>inv.ls k (by simp[hk]),
         cl:=inv.cl,pn:=λk hk=>?_,md:=λk hk j hj hne d hd=>?_,rw:=inv.rw.ov hv,rp:=λt ht=>?_,sz:=inv.sz,df:=inv.df}
  · rw[inv.qZ k hk];simp only[List.mem_cons]
    constructor
    · rintro(h|h|h)
      · exact .inl (.inr h)
      · exact .inl (.inl h)
      · exact .inr h
    · rintro((h|h)|h)
      · exact .inr (.inl h)
      · exact .inl h
      · exact .inr (.inr h)
  · rcases List.mem_cons.1 hk with rfl|hk
    · exact(o8.1 k hl).1.2 rfl
    · exact inv.dis k hk (by simp[hl])
  · rcases List.mem_cons.1 hk with rfl|hk
    · exact(o8.1 j hj).1.1
    · exact inv.pw k hk j (by simp[hj])
  · rcases List.mem_cons.1 hk with rfl|hk
    · exact inv.ls k (by simp)
    · exact inv.ps k hk
  · rcases List.mem_cons.1 hk with rfl|hk
    · have zv:∀t,o.dst=some t→looks ops o t=false:=λt ht=>st.self k o t ho ht hes
      refine⟨o,av,ho,hes,λt ht=>by simp[ht,Env.put,Env.aK],?_⟩;simp only[if_true];rcases hp with⟨h1,h2⟩|⟨h1,hY,hR,hM⟩
      · exact .inl ⟨(Want.put zv).2 h1,h2⟩
      · refine .inr ⟨(Want.put zv).1 h1,R,hY.ev (λx hx=>Env.abg λt e hxt=>?_),by simp,hR,λd hd=>⟨hM d hd,by simp[dP,hd],hv.2.1 d hd⟩⟩
        have:=zv t e;rw[yH (hxt▸hx)]at this;cases this
    · rw[hm' k hk]
      refine(inv.pn k hk).put (λok hok t ht=>?_) (λx hx=>by simp[hx]) (λR' hR' d hd hs=>hv.1 d (tX d hs)) (λd hd hs hn=>by rw[hb d (by simpa using tX d hs)];exact hn);have hki:i≠k:=λe=>hip (e▸hk);constructor
      · rcases Bool.eq_false_or_eq_true (looks ops ok t)with hl|hl
        · rcases st.read i k o ok t ho hok ht hki hl with h|⟨h,_⟩
          · exact absurd h (inv.pw k hk i (by simp))
          · exact absurd h hes
        · exact hl
      · exact λe=>hes (st.one i k o ok t ho hok ht e hki).1
  · have key:∀p∈dw,∀d∈m p,d∉mat:=λp hp d hd=>by
      obtain⟨_,_,_,_,_,q⟩:=inv.pn p hp;rcases q with q|⟨_,_,_,_,q',q⟩
      · rw[q.2.2]at hd;simp at hd
      · exact tX d (q' d (q d hd).1)
    rcases List.mem_cons.1 hk with ek|hk2
    · subst ek
      rcases List.mem_cons.1 hj with ej|hj2
      · exact absurd ej.symm hne
      · simp only[if_true]at hd
        rw[hm' j hj2];exact λh=>key j hj2 d h hd
    · rw[hm' k hk2]at hd
      rcases List.mem_cons.1 hj with ej|hj2
      · subst ej
        simp only[if_true];exact key k hk2 d hd
      · rw[hm' j hj2]
        exact inv.md k hk2 j hj2 hne d hd
  · have hto:o.dst≠some t:=ht i (by simp) o ho
    rw[Env.rL hto];exact kP hb _ _ (Env.cm hv.2.2.1 t) (inv.rp t λk hk=>ht k (by simp[hk]))
theorem Inv.eff(st:Stat G ops s){i:Nat}(inv:Inv G ops s cx m (i::l) dw listed log env σ a w I β){o:Oper}(ho:ops[i]?=some o)(hes:i∈s.es)(hr:i∈Region.ready .any ops listed){M news:List Nat}{av:AV}{σ':Sto}
    (wC:nJ s i M log=true) (hc:env.clean news.contains=true) (hnew:∀d∈news,d∉G.ids∧σ.get d=none) {v:Value} {w':World} {I':Imm} {β':Nat→Value}
    (fD:Rep I' β' av v) (hw':aX G cx I' β' σ' w') (hle:aQ I I') (hb:∀d,d∉news→β' d=β d) (hM:∀d,d∉M→σ'.get d=σ.get d) :
    Inv G ops s cx m l dw (listed.setIfInBounds i true) log (env.put o.dst av) σ' (a.put o.dst v) w' I' β':=by
  have hip:i∉dw:=λh=>inv.dis i h (by simp);have his:i<listed.size:=by rw[inv.lsz];exact inv.ls i (by simp)
  have o8:=inv.ord;simp only[nK,Bool.and_eq_true,List.all_eq_true,Bool.not_eq_true',List.contains_eq_mem,decide_eq_false_iff_not,beq_eq_false_iff_ne]at o8;have hwl:=o7 st inv.lsz inv.cl hr
  have hnp:∀p∈dw,p∉s.T.getD i []:=λp hp hh=>by
    have:=hwl p hh;rw[inv.yJ (.inl hp)]at this;cases this
  have wB:∀d,o.dst=some d→d<a.tmps.size:=λd hd=>by rw[inv.sz];exact st.dst i o d ho hd
  refine{lsz:=by simp[inv.lsz],ord:=o8.2,qZ:=λk hk=>?_,dis:=λk hk hl=>inv.dis k hk (by simp[hl]),nd:=inv.nd,pw:=λk hk j hj=>inv.pw k hk j (by simp[hj]),ps:=inv.ps,ls:=λk hk=>inv.ls k (by simp[hk]),
         cl:=inv.afJ st hr,pn:=λk hk=>?_,md:=inv.md,rw:=hw',rp:=λt ht=>?_,sz:=by rw[size_put];exact inv.sz,df:=by rw[jZ];exact inv.df}
  · rw[yI _ _ _ _ his]
    by_cases hik:i=k
    · subst hik
      simp only[if_true,Bool.true_eq_false,false_iff,not_or];exact⟨hip,λh=>(o8.1 i h).1.2 rfl⟩
    · rw[if_neg hik,inv.qZ k hk]
      simp only[List.mem_cons];constructor
      · rintro(h|h|h)
        · exact .inl h
        · exact absurd h.symm hik
        · exact .inr h
      · rintro(h|h)
        · exact .inl h
        · exact .inr (.inr h)
  · have hki:i≠k:=λe=>hip (e▸hk)
    have hkes:k∉s.es:=by obtain⟨_,_,_,q,_⟩:=inv.pn k hk;exact q
    refine(inv.pn k hk).put (λok hok t ht=>?_) (λx hx=>hx) (λR hR d hd hs=>?_) (λd hd hs hnil=>?_)
    · constructor
      · rcases Bool.eq_false_or_eq_true (looks ops ok t)with hl|hl
        · rcases st.read i k o ok t ho hok ht hki hl with h|⟨_,h⟩
          · exact absurd h (inv.pw k hk i (by simp))
          · exact absurd h (hnp k hk)
        · exact hl
      · exact λe=>hkes (st.one i k o ok t ho hok ht e hki).2
    · rcases zu wC k R hR with h|h
      · exact absurd h (hnp k hk)
      · exact hM d (h d hd)
    · have hdn:d∉news:=λh=>by rw[(hnew d h).2]at hs;cases hs
      rw[hb d hdn];exact hnil
  · by_cases hto:o.dst=some t
    · rw[hto,sB a t v t (wB t hto),if_pos rfl]
      simp only[Env.put,Env.aK,if_true];exact fD
    · rw[Env.rL hto]
      have:(a.put o.dst v).tmps.getD t undef=a.tmps.getD t undef:=by
        cases hd:o.dst with
        |none=>rfl
        |some d=>rw[sB a d v t (wB d hd),if_neg (λe=>hto (by rw[hd,e]))]
      rw[this];exact ou hle (HLe.refl _) _ _ (kP (p:=news.contains) (λd hd=>hb d (by simpa using hd)) _ _ (Env.cm hc t) (inv.rp t ht))
end inv
theorem ahc(st:Stat G ops s)(hdr:s.dr=true)(Q:Exit→Act→World→Prop)(K:Env→Sto→Prop)(cx:Cx)
  (hK:∀env σ a w,K env σ→o6 G cx env σ a w→Q .normal a w) :
  ∀(fuel:Nat) (l dw:List Nat) (m:Nat→List Nat) (listed:Array Bool) (log:List (Nat×List Nat)) (env:Env) (σ:Sto) (a:Act) (w:World) (I:Imm) (β:Nat→Value),
   dw.length+l.length=fuel→Inv G ops s cx m l dw listed log env σ a w I β→Cert G ops s log l env σ K→wpAny G.P .any ops Q fuel listed a w:=by
 intro fuel;induction fuel with
 |zero=>
  intro l dw m listed log env σ a w I β hlen inv hc;have hp:dw=[]:=List.eq_nil_of_length_eq_zero (by omega);have hl:l=[]:=List.eq_nil_of_length_eq_zero (by omega);subst hp hl;refine⟨?_,hK env σ a w hc ⟨I,β,inv.rw,λt=>inv.rp t (by simp),inv.sz,inv.df⟩⟩;apply List.eq_nil_iff_forall_not_mem.2;intro j hj;obtain⟨h1,o,ho,_⟩:=ng.1 hj;have:=(inv.qZ j (Array.getElem?_eq_some_iff.1 ho).1).1 h1;simp at this
 |succ fuel ih=>
  intro l
  have nonempty:∀{l dw:List Nat} {m:Nat→List Nat} {listed:Array Bool} {log:List (Nat×List Nat)} {env:Env} {σ:Sto} {a:Act} {w:World} {I:Imm} {β:Nat→Value},dw.length+l.length=fuel+1→
    Inv G ops s cx m l dw listed log env σ a w I β→Region.ready .any ops listed≠[]:=by
   intro l dw m listed log env σ a w I β hlen inv;have:∃p,p∈dw∨p∈l:=by
    cases dw with
    |nil=>cases l with
     |nil=>simp at hlen
     |cons p _=>exact⟨p,.inr (by simp)⟩
    |cons p _=>exact⟨p,.inl (by simp)⟩
   obtain⟨p,hp⟩:=this;have hps:p<ops.size:=by rcases hp with h|h<;>first|exact inv.ps p h|exact inv.ls p h
   exact ab9 st inv.lsz _ p (Nat.le_refl _) hps ((inv.qZ p hps).2 hp)
  induction l with
  |nil=>
   intro dw m listed log env σ a w I β hlen inv hc;refine⟨λhr=>absurd hr (nonempty hlen inv),λj hj=>?_⟩;obtain⟨hun,o,ho,_⟩:=ng.1 hj;have hjp:j∈dw:=by simpa using (inv.qZ j (Array.getElem?_eq_some_iff.1 ho).1).1 hun
   refine inv.acd st hj hjp λa' w' I' β' inv'=>ih _ _ _ _ _ _ _ _ _ _ _ ?_ inv' hc;rw[List.length_erase_of_mem hjp];have:=List.length_pos_of_mem hjp;omega
  |cons i l ihl=>
   intro dw m listed log env σ a w I β hlen inv hc;obtain⟨o,ho,hcc⟩:=hc;have hc:Cert G ops s log (i::l) env σ K:=⟨o,ho,hcc⟩;have hlen':(i::dw).length+l.length=fuel+1:=by simp at hlen ⊢;omega
   have uK:∀log:List (Nat×List Nat),nJ s i [] log=true:=by
    intro log;induction log with
    |nil=>rfl
    |cons x r ihh=>obtain⟨k,R⟩:=x;simp[nJ,ihh]
   have adY:i∈s.es→(∀(_:i∈Region.ready .any ops listed),wpOp G.P ops Q i (wpAny G.P .any ops Q fuel (listed.setIfInBounds i true)) a w)→wpAny G.P .any ops Q (fuel+1) listed a w:=by
    intro hes hex;refine⟨λhr=>absurd hr (nonempty hlen inv),λj hj=>?_⟩;obtain⟨hun,oj,hoj,_⟩:=ng.1 hj;rcases(inv.qZ j (Array.getElem?_eq_some_iff.1 hoj).1).1 hun with hjp|hjl
    ·refine inv.acd st hj hjp λa' w' I' β' inv'=>ih _ _ _ _ _ _ _ _ _ _ _ ?_ inv' hc;rw[List.length_erase_of_mem hjp];have:=List.length_pos_of_mem hjp;omega
    ·rcases List.mem_cons.1 hjl with rfl|hjl
     ·exact hex hj
     ·exfalso;have o8:=inv.ord;simp only[nK,Bool.and_eq_true,List.all_eq_true,Bool.or_eq_true,Bool.not_eq_true',List.contains_eq_mem,decide_eq_false_iff_not,decide_eq_true_eq]at o8;have:=(o8.1 j hjl).2.resolve_left (λh=>h hes);have:=o7 st inv.lsz inv.cl hj i this;rw[inv.yJ (.inr (by simp))]at this;cases this
   have ajd:dw.length+l.length=fuel:=by simp at hlen;omega
   rcases hcc with⟨h1,h2,h3⟩|⟨h1,h2,mat,R,av,σ2,hv,hR,hM,hY,h3⟩|⟨h1,h2,M,news,Φ,hD,wC,hcl,hnew,h3⟩|⟨h1,h2,h3⟩
   ·exact ihl (i::dw) _ listed ((i,[])::log) _ _ a w I _ hlen' (inv.ov st ho (h2 hdr) (mat:=[]) (R:=[]) (uG.none G σ env) (.inl ⟨h1,rfl,rfl⟩)) h3
   ·exact ihl (i::dw) _ listed ((i,R)::log) _ _ a w I _ hlen' (inv.ov st ho (h2 hdr) hv (.inr ⟨h1,hY,hR,hM⟩)) h3
   ·refine adY (h2 hdr) λhr=>?_;have hlp:=inv.uJ st hr ho (λh=>absurd (h2 hdr) (by obtain⟨_,_,_,q,_⟩:=inv.pn i h;exact q));have hw:=inv.rp.want st inv.sz hlp;unfold wpOp;simp only[ho];rw[hw.1 h1];simp only[if_true];refine .inl (gK.wp (hD cx I β w a.eval inv.rw (inv.rp.ev hlp)) ?_);rintro v w' ⟨av,σ',I',β',hΦ,fD,hw',hle,hb,hMM⟩;exact ih _ _ _ _ _ _ _ _ _ _ _ ajd (inv.eff st ho (h2 hdr) hr (wC hdr) hcl hnew fD hw' hle hb hMM) (h3 av σ' hΦ)
   ·refine adY (h2 hdr) λhr=>?_;have hlp:=inv.uJ st hr ho (λh=>absurd (h2 hdr) (by obtain⟨_,_,_,q,_⟩:=inv.pn i h;exact q));have hw:=inv.rp.want st inv.sz hlp;unfold wpOp;simp only[ho];rw[hw.2 h1];simp only[Bool.false_eq_true,if_false];exact ih _ _ _ _ _ _ _ _ _ _ _ ajd (inv.eff st ho (h2 hdr) hr (M:=[]) (news:=[]) (av:=.undef) (uK log) (Env.gi env) (by simp) (by simp[Rep,aB]) inv.rw (aQ.refl I) (λ_ _=>rfl) (λ_ _=>rfl)) h3
end any
end
section
def af(G:Gl)(c:Code)(Q:Exit→Env→Sto→Prop)(env:Env)(σ:Sto):Prop:=
 ∀cx a w,o6 G cx env σ a w→c.wp G.P (λe a' w'=>∃env' σ',o6 G cx env' σ' a' w'∧Q e env' σ') a w
variable {c:Code}
theorem af.mono{G:Gl}{Q Q':Exit→Env→Sto→Prop}{env:Env}{σ:Sto}(h:af G c Q env σ)(hq:∀e env σ,Q e env σ→Q' e env σ):af G c Q' env σ:=
 λcx a w hr=>wp_mono (h cx a w hr) λ_ _ _ ⟨env',σ',h1,h2⟩=>⟨env',σ',h1,hq _ _ _ h2⟩
section code
variable {G:Gl}{Q:Exit→Env→Sto→Prop}{env:Env}{σ:Sto}
theorem A.skip(h:Q .normal env σ):af G .skip Q env σ:=λ_ _ _ hr=>wp_skip ⟨env,σ,hr,h⟩
theorem A.exit{id:Nat}(h:Q (.exit id) env σ):af G (.exit id) Q env σ:=λ_ _ _ hr=>wp_exit ⟨env,σ,hr,h⟩
theorem A.ret(h:Q .ret env σ):af G .ret Q env σ:=λ_ _ _ hr=>wp_ret ⟨env,σ,hr,h⟩
def l8(next:Env→Sto→Prop)(Q:Exit→Env→Sto→Prop):Exit→Env→Sto→Prop
 |.normal,env,σ=>next env σ
 |e,env,σ=>Q e env σ
theorem A.seq{x y:Code}(h:af G x (l8 (af G y Q) Q) env σ):af G (.seq x y) Q env σ:=by
 intro cx a w hr;refine wp_seq (wp_mono (h cx a w hr) ?_);rintro e a' w' ⟨env',σ',hr',hq⟩;cases e with
 |normal=>exact hq cx a' w' hr'
 |_=>exact⟨env',σ',hr',hq⟩
def afK(id:Nat)(Q:Exit→Env→Sto→Prop):Exit→Env→Sto→Prop
 |.exit id',env,σ=>bif Nat.beq id' id then Q .normal env σ else Q (.exit id') env σ
 |e,env,σ=>Q e env σ
theorem A.block{id:Nat}{x:Code}(h:af G x (afK id Q) env σ):af G (.block id x) Q env σ:=by
 intro cx a w hr;refine wp_block (wp_mono (h cx a w hr) ?_);rintro e a' w' ⟨env',σ',hr',hq⟩;cases e with
 |exit id'=>
  simp only[afK,Exit.inBlock]at hq ⊢;by_cases h:id'=id
  ·subst h;simp at hq ⊢;exact⟨env',σ',hr',hq⟩
  ·have:Nat.beq id' id=false:=by rw[←Bool.not_eq_true,Nat.beq_eq];exact h
   simp only[this,cond_false]at hq;rw[if_neg h];exact⟨env',σ',hr',hq⟩
 |_=>exact⟨env',σ',hr',hq⟩
theorem A.cond{c:Operand}{x y:Code}{b:Bool}(hc:env.ev c=.bool b)(ht:b=true→af G x Q env σ)(hf:b=false→af G y Q env σ):af G (.cond c x y) Q env σ:=by
 intro cx a w hr;obtain⟨I,β,h1,h2,h3,h4⟩:=hr;have hv:=h2.ev c;rw[hc]at hv;simp only[Rep,aB]at hv;exact wp_cond_split hv (λe=>ht e cx a w ⟨I,β,h1,h2,h3,h4⟩) (λe=>hf e cx a w ⟨I,β,h1,h2,h3,h4⟩)
theorem A.region{id:Nat}{ops:Array Oper}(hd:rK G.N ops=true)(h:Cert G ops ⟨false,[],[]⟩ [] (List.range ops.size) env σ (λenv σ=>Q .normal env σ)):af G (.region id ops false) Q env σ:=by
 intro cx a w hr;exact wp_region (uI G ops _ _ (zo hd) _ cx (λenv σ a w hk hr=>⟨env,σ,hr,hk⟩) _ _ _ _ _ _ h hr)
theorem aX.drew{G:Gl}{cx:Cx}{I:Imm}{β:Nat→Value}{w:World}(h:aX G cx I β σ w):aX G cx I β σ {w with drawn:=w.drawn+1}:=
 {good:=h.good,dO:=h.dO,eX:=h.eX,fU:=h.fU,frame:=h.frame,size:=h.size,tape:=h.tape,os:=h.os,output:=h.output,drawn:=Nat.le_trans h.drawn (Nat.le_succ _),bB:=λd o hd=>aj.heap (w:=w) (w':={w with drawn:=w.drawn+1}) rfl (h.bB d o hd),bQ:=h.bQ,keep:=h.keep}
theorem A.any{id:Nat}{ops:Array Oper}(T:List (List Nat))(es l:List Nat)(hm:G.P.follows .mixedOrders=true)(hs:zq G.N ops ⟨true,T,es⟩ l=true)
    (h:Cert G ops ⟨true,T,es⟩ [] l env σ (λenv σ=>Q .normal env σ)):af G (.region id ops true) Q env σ:=by
  intro cx a w hr;obtain⟨st,o8,hmem⟩:=Stat.of hs;obtain⟨I,β,h1,h2,h3,h4⟩:=hr
  refine wp_region_any hm (ahc st rfl _ _ cx (λenv σ a w hk hr=>⟨env,σ,hr,hk⟩) ops.size l [] (λ_=>[]) _ [] env σ a _ I β ?_
    {lsz:=by simp,ord:=o8,qZ:=λi hi=>?_,dis:=λi hi=>by simp at hi,nd:=List.nodup_nil,pw:=λi hi=>by simp at hi,ps:=λi hi=>by simp at hi,ls:=λi hi=>(hmem i).2 hi,
     cl:=λj hj=>?_,pn:=λi hi=>by simp at hi,md:=λi hi=>by simp at hi,rw:=h1.drew,rp:=λt _=>h2 t,sz:=h3,df:=h4} h)
  ·
    have nd:∀l:List Nat,nK ⟨true,T,es⟩ l=true→l.Nodup:=by
      intro l;induction l with
      |nil=>intro _;exact List.nodup_nil
      |cons i l ih=>
        intro h;simp only[nK,Bool.and_eq_true,List.all_eq_true,Bool.not_eq_true',beq_eq_false_iff_ne]at h;exact List.nodup_cons.2 ⟨λhi=>(h.1 i hi).1.2 rfl,ih h.2⟩
    have hp:l.Perm (List.range ops.size):=(List.perm_ext_iff_of_nodup (nd l o8) List.nodup_range).2 λi=>by rw[List.mem_range];exact(hmem i).symm
    simpa using hp.length_eq
  · simp[Array.getD_eq_getD_getElem?,hi,(hmem i).1 hi]
  · simp only[Array.getD_eq_getD_getElem?,Array.getElem?_replicate]at hj
    split at hj<;>simp at hj
def aU(G:Gl)(env:Env)(σ:Sto)(bT:Env)(σ2:Sto):Prop:=
 ∀cx I β a w,aX G cx I β σ w→jc I β env a→∃I' β',aX G cx I' β' σ2 w∧jc I' β' bT a
theorem aU.refl(G:Gl)(env:Env)(σ:Sto):aU G env σ env σ:=λ_ I β _ _ h h'=>⟨I,β,h,h'⟩
theorem aU.trans{rj bT:Env}{σ1 σ2:Sto}(h:aU G env σ rj σ1)(h':aU G rj σ1 bT σ2):aU G env σ bT σ2:=λcx I β a w h1 h2=>by
 obtain⟨I',β',h3,h4⟩:=h cx I β a w h1 h2;exact h' cx I' β' a w h3 h4
theorem aU.rel{bT:Env}{σ2:Sto}(h:aU G env σ bT σ2){cx:Cx}{a:Act}{w:World}(hr:o6 G cx env σ a w):o6 G cx bT σ2 a w:=by
 obtain⟨I,β,h1,h2,h3,h4⟩:=hr;obtain⟨I',β',h5,h6⟩:=h cx I β a w h1 h2;exact⟨I',β',h5,h6,h3,h4⟩
theorem A.weak{c:Code}{bT:Env}{σ2:Sto}(h:aU G env σ bT σ2)(k:af G c Q bT σ2):af G c Q env σ:=λcx a w hr=>k cx a w (h.rel hr)
theorem A.loop{c:Code}{α:Type}(cn:α→Env)(dh:α→Sto)(φ:α→Prop)(μ:α→Nat)(g0:α)(h0:φ g0)(hw:aU G env σ (cn g0) (dh g0))
  (step:∀g,φ g→af G c (l8 (λenv' σ'=>∃g',φ g'∧μ g'<μ g∧aU G env' σ' (cn g') (dh g')) Q) (cn g) (dh g)):af G (.loop c) Q env σ:=by
 intro cx a w hr b k cs
 have key:∀n g a w,μ g=n→φ g→o6 G cx (cn g) (dh g) a w→∃e a' w',(∃env' σ',o6 G cx env' σ' a' w'∧Q e env' σ')∧
   Arrives G.P (lone (b.at a (.code c::.inLoop c::k)) cs w) b k cs e a' w':=by
  intro n;induction n using Nat.strongRecOn with
  |_ n ih=>
   intro g a w hn hg hr;obtain⟨e,a₁,w₁,hq,jT⟩:=step g hg cx a w hr b (.inLoop c::k) cs;obtain⟨env',σ',hr',hq⟩:=hq;cases e with
   |normal=>
    obtain⟨g',hg',hlt,hwk⟩:=hq;obtain⟨e₂,a₂,w₂,ap2,aka⟩:=ih (μ g') (hn▸hlt) g' a₁ w₁ rfl hg' (hwk.rel hr');exact⟨e₂,a₂,w₂,ap2,.of_steps (Steps.trans jT (.one step_inLoop)) aka⟩
   |exit id=>exact⟨_,a₁,w₁,⟨env',σ',hr',hq⟩,.pass (x:=.inLoop c) rfl (λ_ _=>.inl (by simp)) jT⟩
   |goto l=>exact⟨_,a₁,w₁,⟨env',σ',hr',hq⟩,.pass (x:=.inLoop c) rfl (λ_ _=>.inl (by simp)) jT⟩
   |ret=>exact⟨_,a₁,w₁,⟨env',σ',hr',hq⟩,.pass (x:=.inLoop c) rfl (λ_ _=>.inl (by simp)) jT⟩
   |panic ch=>exact⟨_,a₁,w₁,⟨env',σ',hr',hq⟩,.pass (x:=.inLoop c) rfl (λ_ _=>.inl (by simp)) jT⟩
   |outgrown=>exact⟨_,a₁,w₁,⟨env',σ',hr',hq⟩,.pass (x:=.inLoop c) rfl (λ_ _=>.inl (by simp)) jT⟩
 obtain⟨e,a',w',hq,jT⟩:=key _ g0 a w rfl h0 (hw.rel hr);exact⟨e,a',w',hq,.of_steps (.one step_loop) jT⟩
end code
mutual
def AV.closed:AV→Bool
 |.agg cs=>eO cs
 |.tup cs=>eO cs
 |.fn _ cs=>eO cs
 |.own _=>false
 |.ptr _ _=>false
 |.hnd _ _=>false
 |.bX _=>false
 |_=>true
def eO:List AV→Bool
 |[]=>true
 |x::r=>x.closed&&eO r
end
mutual
theorem Rep.closed{I:Imm}{β:Nat→Value}:∀(a:AV) (v:Value),a.closed=true→Rep I β a v→aB I a v
 |.dM,_,_,_=>trivial
 |.undef,_,_,h=>by simpa only[Rep]using h
 |.int _ _,_,_,h=>by simpa only[Rep]using h
 |.bool _,_,_,h=>by simpa only[Rep]using h
 |.str _,_,_,h=>by simpa only[Rep]using h
 |.lst _ _,_,_,h=>by simpa only[Rep]using h
 |.cV _,_,_,h=>by simpa only[Rep]using h
 |.bI,_,_,h=>by simpa only[Rep]using h
 |.lC,_,_,h=>by simpa only[Rep]using h
 |.cfn _ _,_,_,h=>by simpa only[Rep]using h
 |.sl0,_,_,h=>by simpa only[Rep]using h
 |.mpf _,_,_,h=>by simpa only[Rep]using h
 |.arr _,_,_,h=>by simpa only[Rep]using h
 |.agg cs,v,hc,h=>by
  simp only[aB,Rep,AV.closed]at h hc ⊢;obtain⟨vs,h1,h2⟩:=h;exact⟨vs,h1,aW.closed cs _ hc h2⟩
 |.tup cs,v,hc,h=>by
  simp only[aB,Rep,AV.closed]at h hc ⊢;obtain⟨vs,h1,h2⟩:=h;exact⟨vs,h1,aW.closed cs _ hc h2⟩
 |.fn f cs,v,hc,h=>by
  simp only[aB,Rep,AV.closed]at h hc ⊢;obtain⟨vs,h1,h2⟩:=h;exact⟨vs,h1,aW.closed cs _ hc h2⟩
 |.own _,_,hc,_=>by simp[AV.closed]at hc
 |.ptr _ _,_,hc,_=>by simp[AV.closed]at hc
 |.hnd _ _,_,hc,_=>by simp[AV.closed]at hc
 |.bX _,_,hc,_=>by simp[AV.closed]at hc
theorem aW.closed{I:Imm}{β:Nat→Value}:∀(a:List AV) (v:List Value),eO a=true→aW I β a v→aS I a v
 |[],_,_,h=>h
 |x::r,v,hc,h=>by
  simp only[aW,aS,eO,Bool.and_eq_true]at h hc ⊢;obtain⟨u,us,h1,h2,h3⟩:=h;exact⟨u,us,h1,Rep.closed x u hc.1 h2,aW.closed r us hc.2 h3⟩
end
mutual
inductive eT(σ:Sto):AV→AV→Prop
 |refl (a:AV):eT σ a a
 |nil (f:Bool):eT σ .bI (.lst f [])
 |sl0:eT σ .sl0 (.lst false [])
 |full (xs:List (List AV)):eT σ (.lst true xs) (.lst false xs)
 |own {d:Nat} {T:TypeId} {sz k:Nat} {xs:List (List AV)} (h:σ.get d=some (.slice T sz xs k true)):eT σ (.own d) (.lst false xs)
 |win {d:Nat} {T:TypeId} {sz:Nat} {xs:List (List AV)} (h:σ.get d=some (.win T sz xs)):eT σ (.own d) (.lst false xs)
 |jA {d:Nat} {K E:TypeId} {aL:List (AV×AV)} (h:σ.get d=some (.jA K E aL)):eT σ (.bX d) (.mpf aL)
 |agg {cs cs':List AV} (h:fM σ cs cs'):eT σ (.agg cs) (.agg cs')
 |tup {cs cs':List AV} (h:fM σ cs cs'):eT σ (.tup cs) (.tup cs')
 |fn {f:Nat} {cs cs':List AV} (h:fM σ cs cs'):eT σ (.fn f cs) (.fn f cs')
 |dM (a:AV):eT σ a .dM
 |cfn {f:Nat} {a:AV} {cs:List AV} (h:eT σ a (.fn f cs)) (hc:eO cs=true):eT σ a (.cfn f cs)
inductive fM(σ:Sto):List AV→List AV→Prop
 |nil:fM σ [] []
 |cons {a b:AV} {r s:List AV} (h:eT σ a b) (t:fM σ r s):fM σ (a::r) (b::s)
end
theorem s5{I:Imm}{b:Nat}:∀(cs:List AV) (o:Nat) (vs:List Value),aS I cs vs→(∀(j:Nat) v,vs[j]?=some v→I b ((o+j:Nat))=some v)→fc I b cs o
 |[],_,_,_,_=>trivial
 |x::r,o,vs,h,hI=>by
  simp only[aS]at h;obtain⟨u,us,rfl,h1,h2⟩:=h;refine⟨⟨u,by simpa using hI 0 u rfl,h1⟩,s5 r (o+1) us h2 λj v hv=>?_⟩;have:=hI (j+1) v (by simpa using hv)
  rwa [show o+(j+1)=o+1+j from by omega]at this
theorem cS{I:Imm}:∀(xs ys:List AV) (vs:List Value),aS I (xs++ys) vs↔∃us ws,vs=us++ws∧aS I xs us∧aS I ys ws
 |[],ys,vs=>by
  simp only[List.nil_append,aS];exact⟨λh=>⟨[],vs,rfl,rfl,h⟩,λ⟨us,ws,h1,h2,h3⟩=>by subst h2;simp at h1;subst h1;exact h3⟩
 |x::r,ys,vs=>by
  simp only[List.cons_append,aS];constructor
  ·rintro⟨u,us,rfl,h1,h2⟩;obtain⟨us',ws,rfl,h3,h4⟩:=(cS r ys us).1 h2;exact⟨u::us',ws,rfl,⟨u,us',rfl,h1,h3⟩,h4⟩
  ·rintro⟨us,ws,rfl,⟨u,us',rfl,h1,h3⟩,h4⟩;exact⟨u,us'++ws,rfl,h1,(cS r ys _).2 ⟨us',ws,rfl,h3,h4⟩⟩
theorem dQ{I:Imm}:∀(xs:List AV) (vs:List Value),aS I xs vs→vs.length=xs.length
 |[],vs,h=>by simp only[aS]at h;subst h;rfl
 |x::r,vs,h=>by
  simp only[aS]at h;obtain⟨u,us,rfl,_,h2⟩:=h;simp[dQ r us h2]
theorem gd{I:Imm}{β:Nat→Value}:∀(xs:List AV) (vs:List Value),aW I β xs vs→vs.length=xs.length
 |[],vs,h=>by simp only[aW]at h;subst h;rfl
 |x::r,vs,h=>by
  simp only[aW]at h;obtain⟨u,us,rfl,_,h2⟩:=h;simp[gd r us h2]
theorem l9{I:Imm}{b:Nat}:∀(xs:List (List AV)) (o:Nat) (vs:List Value),aS I xs.flatten vs→(∀(j:Nat) v,vs[j]?=some v→I b ((o+j:Nat))=some v)→dg I b xs o
 |[],_,_,_,_=>trivial
 |e::r,o,vs,h,hI=>by
  simp only[List.flatten_cons]at h;obtain⟨us,ws,rfl,h1,h2⟩:=(cS _ _ _).1 h;have hl:=dQ _ _ h1
  refine⟨s5 e o us h1 λj v hv=>hI j v (by
    rw[List.getElem?_append_left (by rcases Nat.lt_or_ge j us.length with h'|h';exact h';rw[List.getElem?_eq_none h']at hv;cases hv)];exact hv),
   l9 r (o+e.length) ws h2 λj v hv=>?_⟩
  have:=hI (us.length+j) v (by rw[List.getElem?_append_right (by omega)];simpa using hv)
  rwa [hl,←Nat.add_assoc]at this
section sealing
variable {G:Gl}{cx:Cx}{I:Imm}{β:Nat→Value}{σ:Sto}{w:World}
theorem aX.slice(h:aX G cx I β σ w){d:Nat}{T:TypeId}{sz k:Nat}{xs:List (List AV)}(hd:σ.get d=some (.slice T sz xs k true)){v:Value}(hv:Rep I β (.own d) v):
  Rep I β (.lst false xs) v:=by
 simp only[Rep]at hv;obtain⟨rfl,hs⟩:=hv;have:=h.bB d _ hd;simp only[aj]at this;rcases this with h1|⟨h1,rfl,_⟩|⟨b,cap,arr,h1,h2,h3,h4,h5,h6,h7,h8,h9,h10,h11⟩
 ·rw[h1]at hs;simp[fP]at hs
 ·rw[h1];simp only[Rep,aB];exact⟨none,0,rfl,by simp,by simp[maxLen],by simp,by simp⟩
 ·rw[h1];simp only[Rep,aB];refine⟨_,cap,rfl,h2,h3,by simp,.inr ⟨b,0,rfl,?_⟩⟩;refine l9 xs 0 _ h6 λj v hv=>?_;rw[Nat.zero_add];rw[List.getElem?_take]at hv;split at hv
  ·rename_i hlt;rw[h9 trivial j hlt];simpa using hv
  ·cases hv
theorem aX.win(h:aX G cx I β σ w){d:Nat}{T:TypeId}{sz:Nat}{xs:List (List AV)}(hd:σ.get d=some (.win T sz xs)){v:Value}(hv:Rep I β (.own d) v):
  Rep I β (.lst false xs) v:=by
 simp only[Rep]at hv;obtain⟨rfl,hs⟩:=hv;have:=h.bB d _ hd;simp only[aj]at this;rcases this with h1|⟨h1,rfl⟩|⟨b,o0,cap,arr,h1,h2,h3,h4,h5,h6,h7,h8,h9⟩
 ·rw[h1]at hs;simp[fP]at hs
 ·rw[h1];simp only[Rep,aB];exact⟨none,0,rfl,by simp,by simp[maxLen],by simp,by simp⟩
 ·rw[h1];simp only[Rep,aB];exact⟨_,cap,rfl,h2,h3,by simp,.inr ⟨b,o0,rfl,h6⟩⟩
mutual
theorem eT.rep(hw:aX G cx I β σ w):∀{a r:AV},eT σ a r→∀v,Rep I β a v→Rep I β r v
 |_,_,.sl0,v,h=>by
  simp only[Rep,aB]at h ⊢;obtain⟨a,c,hr,hc⟩:=h;exact⟨some a,c,hr,by simp,hc,by simp,by simp⟩
 |_,_,.refl _,_,h=>h
 |_,_,.cfn hs hc,v,h=>by
  have h1:=eT.rep hw hs v h;simp only[Rep,aB]at h1 ⊢;obtain⟨vs,h2,h3⟩:=h1;exact⟨vs,h2,aW.closed _ _ hc h3⟩
 |_,_,.nil f,v,h=>by
  simp only[Rep,aB]at h ⊢;exact⟨none,0,h,by simp,by simp[maxLen],by simp,by simp⟩
 |_,_,.full xs,v,h=>by
  simp only[Rep,aB]at h ⊢;obtain⟨a,c,h1,h2,h3,_,h4⟩:=h;exact⟨a,c,h1,h2,h3,by simp,h4⟩
 |_,_,.own hd,v,h=>hw.slice hd h
 |_,_,.win hd,v,h=>hw.win hd h
 |_,_,.jA hd,v,h=>by
  simp only[Rep]at h;obtain⟨rfl,hm⟩:=h;have:=hw.bB _ _ hd;simp only[aj]at this;rcases this with q|⟨r,es,clock,q1,q2,q3,_,q4⟩
  ·rw[q]at hm;simp[jS]at hm
  ·rw[q1];simp only[Rep,aB];exact⟨r,es,clock,rfl,q2,q3,q4⟩
 |_,_,.agg hs,v,h=>by
  simp only[Rep]at h ⊢;obtain⟨vs,h1,h2⟩:=h;exact⟨vs,h1,fM.rep hw hs _ h2⟩
 |_,_,.tup hs,v,h=>by
  simp only[Rep]at h ⊢;obtain⟨vs,h1,h2⟩:=h;exact⟨vs,h1,fM.rep hw hs _ h2⟩
 |_,_,.fn hs,v,h=>by
  simp only[Rep]at h ⊢;obtain⟨vs,h1,h2⟩:=h;exact⟨vs,h1,fM.rep hw hs _ h2⟩
 |_,_,.dM _,v,h=>by simp[Rep]
theorem fM.rep(hw:aX G cx I β σ w):∀{a r:List AV},fM σ a r→∀vs,aW I β a vs→aW I β r vs
 |_,_,.nil,_,h=>h
 |_,_,.cons hs ht,vs,h=>by
  simp only[aW]at h ⊢;obtain⟨u,us,h1,h2,h3⟩:=h;exact⟨u,us,h1,eT.rep hw hs u h2,fM.rep hw ht us h3⟩
end
theorem aX.sub{σ2:Sto}(h:aX G cx I β σ w)(hs:∀d o,σ2.get d=some o→σ.get d=some o):aX G cx I β σ2 w:=
  {h with bB:=λd o e=>h.bB d o (hs d o e),
          bQ:=λd d' e e'=>by
            obtain⟨o,e⟩:=Option.isSome_iff_exists.1 e;obtain⟨o',e'⟩:=Option.isSome_iff_exists.1 e';exact h.bQ d d' (by rw[hs d o e];rfl) (by rw[hs d' o' e'];rfl)}
def br.frz:br→br
 |.slice T sz xs _ _=>.slice T sz xs xs.length true
 |.map K E aL=>.jA K E aL
 |o=>o
def Sto.freeze(fz:List Nat):Sto→Sto
 |[]=>[]
 |(d,o)::r=>(d,bif fz.contains d then o.frz else o)::Sto.freeze fz r
theorem Sto.dV(fz:List Nat):∀(σ:Sto) (d:Nat),(Sto.freeze fz σ).get d=(σ.get d).map λo=>if d∈fz then o.frz else o
 |[],d=>rfl
 |(k,o)::r,d=>by
  simp only[Sto.freeze,Sto.aK,Sto.dV fz r d];split
  ·rename_i h;subst h;by_cases hm:k∈fz<;>simp[hm]
  ·rfl
theorem aj.imm{I':Imm}{d b:Nat}{o:br}(hle:aQ I I')(dR:∀b' o,b'≠b→I' b' o=I b' o)(aje:∀b'∈bY (β d),b'≠b)(hold:aj cx I β w d o):aj cx I' β w d o:=by
 have hsep:∀b',blk (β d)=some b'→b'≠b:=λb' hb'=>aje b' (cR hb');cases o with
 |bun els=>
  simp only[aj]at hold ⊢;rcases hold with q|⟨hs,q1,q2⟩
  ·exact .inl q
  ·exact .inr ⟨hs,q1,q2.go hle λb' hb'=>⟨λ_=>rfl,λo=>dR b' o (aje b' (by rw[q1];exact hb')),id⟩⟩
 |slm T xs t=>
  simp only[aj]at hold ⊢;rcases hold with q|⟨b',cap,arr,q1,q2,q3,q4,q5,q6,q7,q8,q9,q10,q11⟩
  ·exact .inl q
  ·exact .inr ⟨b',cap,arr,q1,q2,q3,q4,q5,ef hle _ _ q6,q7,q8,q9,λo=>by rw[dR b' o (hsep b' (by rw[q1];rfl))];exact q10 o,q11⟩
 |vec T xs=>
  simp only[aj]at hold ⊢;rcases hold with q|⟨b',arr,q1,q2,q3,q4,q5⟩
  ·exact .inl q
  ·exact .inr ⟨b',arr,q1,q2,q3,λo=>by rw[dR b' o (hsep b' (by rw[q1];rfl))];exact q4 o,q5⟩
 |ei es clock aL seen=>
  simp only[aj]at hold ⊢;rcases hold with q|⟨r,bm,q1,q2,q3,q4,q5,q6,q7⟩
  ·exact .inl q
  ·exact .inr ⟨r,bm,q1,q2,hle _ _ _ q3,eo hle _ _ q4,q5,λo=>by rw[dR r o (hsep r (by rw[q1];rfl))];exact q6 o,q7⟩
 |b8 T e n hole=>
  simp only[aj]at hold ⊢;rcases hold with q|⟨b',cap,arr,hs,q1,q2,q3,q4,q5,q6,q7,q8,q9,q10⟩
  ·exact .inl q
  ·exact .inr ⟨b',cap,arr,hs,q1,q2,q3,q4,q5,q6,q7,q8,λo=>by rw[dR b' o (hsep b' (by rw[q1];rfl))];exact q9 o,q10⟩
 |gh K E e keys hole fx=>
  simp only[aj]at hold ⊢;rcases hold with q|⟨r,es,clock,hs,as,q1,q2,q3,q4,q5,q6,q7,q8⟩
  ·exact .inl q
  ·exact .inr ⟨r,es,clock,hs,as,q1,q2,q3,q4,q5.mono hle,λo=>by rw[dR r o (hsep r (by rw[q1];rfl))];exact q6 o,q7,q8⟩
 |cells T cs=>
  simp only[aj]at hold ⊢;rcases hold with q|⟨b',mT,q1,q2,q3,q4,q5⟩
  ·exact .inl q
  ·exact .inr ⟨b',mT,q1,q2,iN hle (HLe.refl _) _ _ q3,λo=>by rw[dR b' o (hsep b' (by rw[q1];rfl))];exact q4 o,q5⟩
 |slice T' sz' xs' k' fz'=>
  simp only[aj]at hold ⊢;rcases hold with q|q|⟨b',cap',mT,q1,q2,q3,q4,q5,q6,q7,q8,q9,q10,q11⟩
  ·exact .inl q
  ·exact .inr (.inl q)
  ·have hne:=hsep b' (by rw[q1];rfl);exact .inr (.inr ⟨b',cap',mT,q1,q2,q3,q4,q5,ef hle _ _ q6,q7,q8,λhz o ho=>by rw[dR b' o hne];exact q9 hz o ho,λo ho=>by rw[dR b' o hne];exact q10 o ho,q11⟩)
 |win T' sz' xs'=>
  simp only[aj]at hold ⊢;rcases hold with q|q|⟨b',o',cap',mT,q1,q2,q3,q4,q5,q6,q7,q8,q9⟩
  ·exact .inl q
  ·exact .inr (.inl q)
  ·have hne:=hsep b' (by rw[q1];rfl);exact .inr (.inr ⟨b',o',cap',mT,q1,q2,q3,q4,q5,jy hle _ _ _ q6,q7,λhz o ho=>by rw[dR b' o hne];exact q8 hz o ho,q9⟩)
 |map K E aL=>
  simp only[aj]at hold ⊢;rcases hold with q|⟨r,es,clock,q1,q2,q3,q4,q5⟩
  ·exact .inl q
  ·exact .inr ⟨r,es,clock,q1,q2,eo hle _ _ q3,λo=>by rw[dR r o (hsep r (by rw[q1];rfl))];exact q4 o,q5⟩
 |jA K E aL=>
  simp only[aj]at hold ⊢;rcases hold with q|⟨r,es,clock,q1,q2,q3,q4⟩
  ·exact .inl q
  ·exact .inr ⟨r,es,clock,q1,hle _ _ _ q2,eo hle _ _ q3,q4⟩
 |dI es clock K E aL=>
  simp only[aj]at hold ⊢;rcases hold with q|⟨r,q1,q2,q3,q4,q5⟩
  ·exact .inl q
  ·exact .inr ⟨r,q1,q2,eo hle _ _ q3,λo=>by rw[dR r o (hsep r (by rw[q1];rfl))];exact q4 o,q5⟩
 |iter dm since c0 seen=>
  simp only[aj]at hold ⊢;rcases hold with q|⟨r,bm,q1,q2,q3,q4,q5⟩
  ·exact .inl q
  ·exact .inr ⟨r,bm,q1,q2,q3,λo=>by rw[dR r o (hsep r (by rw[q1];rfl))];exact q4 o,q5⟩
 |hdr dm n=>exact hold
theorem aX.akb(h:aX G cx I β σ w)(e:Nat):∃I',aQ I I'∧aX G cx I' β (σ.freeze [e]) w:=by
 cases he:σ.get e with
 |none=>
  refine⟨I,aQ.refl I,h.sub λd o hd=>?_⟩;rw[Sto.dV]at hd;cases hd':σ.get d with
  |none=>rw[hd']at hd;cases hd
  |some o'=>
   rw[hd']at hd;have:d∉[e]:=by intro hm;simp at hm;subst hm;rw[he]at hd';cases hd'
   simp only[Option.map_some,this,if_false]at hd;exact hd
 |some o=>
  have rq:(∀o',o.frz=o'→o'=o)→∃I',aQ I I'∧aX G cx I' β (σ.freeze [e]) w:=by
   intro hfr;refine⟨I,aQ.refl I,h.sub λd o' hd=>?_⟩;rw[Sto.dV]at hd;cases hd':σ.get d with
   |none=>rw[hd']at hd;cases hd
   |some o2=>
    rw[hd']at hd;simp only[Option.map_some,Option.some.injEq]at hd;split at hd
    ·rename_i hm;simp at hm;subst hm;rw[he]at hd';cases hd';rw[hfr o' hd]
    ·rw[hd]
  cases o with
  |cells T cs=>exact rq (λ_ e=>e.symm)
  |jA K E aL=>exact rq (λ_ e=>e.symm)
  |dI es clock K E aL=>exact rq (λ_ e=>e.symm)
  |iter dm since c0 seen=>exact rq (λ_ e=>e.symm)
  |hdr dm n=>exact rq (λ_ e=>e.symm)
  |win T sz xs=>exact rq (λ_ e=>e.symm)
  |bun els=>exact rq (λ_ e=>e.symm)
  |b8 T e n hole=>exact rq (λ_ e=>e.symm)
  |slm T xs t=>exact rq (λ_ e=>e.symm)
  |vec T xs=>exact rq (λ_ e=>e.symm)
  |ei es clock aL seen=>exact rq (λ_ e=>e.symm)
  |gh K E e keys hole fx=>exact rq (λ_ e=>e.symm)
  |map K E aL=>
   have ho:=h.bB e _ he;simp only[aj]at ho;rcases ho with h1|⟨r,es,clock,h1,h2,h3,h4,h5,h6⟩
   ·refine⟨I,aQ.refl I,{h with bB:=λd o hd=>?_,bQ:=λd d' hd hd'=>?_}⟩
    ·rw[Sto.dV]at hd;cases hd':σ.get d with
     |none=>rw[hd']at hd;cases hd
     |some o2=>
      rw[hd']at hd;simp only[Option.map_some,Option.some.injEq]at hd;subst hd;split
      ·rename_i hm;simp at hm;subst hm;rw[he]at hd';cases hd';exact .inl h1
      ·exact h.bB d o2 hd'
    ·rw[Sto.dV,Option.isSome_map]at hd hd';exact h.bQ d d' hd hd'
   ·let I':Imm:=λb o=>if b=r∧o=none then some (lg es clock)else I b o
    have hle:aQ I I':=λb o v hv=>by
     show(if b=r∧o=none then some (lg es clock)else I b o)=some v;split
     ·rename_i hh;obtain⟨rfl,rfl⟩:=hh;rw[h4 none]at hv;cases hv
     ·exact hv
    have dR:∀b o,b≠r→I' b o=I b o:=λb o hne=>by
     show(if b=r∧o=none then some (lg es clock)else I b o)=_;rw[if_neg (λhh=>hne hh.1)]
    have hblk:blk (β e)=some r:=by rw[h1];rfl
    refine⟨I',hle,{good:=λb' o v hv=>?_,dO:=λb' v hv=>?_,eX:=λb' o v hv=>hle _ _ _ (h.eX _ _ _ hv),fU:=λb' hb hn o=>?_,frame:=h.frame,size:=h.size,tape:=h.tape,os:=h.os,output:=h.output,drawn:=h.drawn,bB:=λd o hd=>?_,bQ:=λd d' hd hd'=>?_,keep:=h.keep}⟩
    ·refine h.good b' o v ?_
     change (if b'=r∧some o=none then some (lg es clock)else I b' o)=some v at hv
     rwa [if_neg (by simp)]at hv
    ·change (if b'=r∧none=none then some (lg es clock)else I b' none)=some v at hv
     split at hv
     ·rename_i hh;obtain⟨rfl,_⟩:=hh;exact⟨es,clock,h2,(Option.some.inj hv).symm⟩
     ·exact h.dO b' v hv
    ·have hne:b'≠r:=λe=>by
      subst e;rcases h5 with q|q
      ·omega
      ·exact hn q
     rw[dR b' o hne];exact h.fU b' hb hn o
    ·rw[Sto.dV]at hd;cases hd':σ.get d with
     |none=>rw[hd']at hd;cases hd
     |some o2=>
      rw[hd']at hd;simp only[Option.map_some,Option.some.injEq]at hd;subst hd;by_cases hde:d=e
      ·subst hde;rw[he]at hd';cases hd';simp only[List.mem_singleton,if_true,br.frz,aj];exact .inr ⟨r,es,clock,h1,by show(if r=r∧none=none then some (lg es clock)else I r none)=_;rw[if_pos ⟨rfl,rfl⟩],eo hle _ _ h3,h5,h6⟩
      ·have hm:d∉[e]:=by simpa using hde
       rw[if_neg hm];refine(h.bB d o2 hd').imm hle dR λb' hb' e'=>?_;subst e';exact h.bQ d e (by rw[hd'];rfl) (by rw[he];rfl) hde b' hb' (cR hblk)
    ·rw[Sto.dV,Option.isSome_map]at hd hd';exact h.bQ d d' hd hd'
  |slice T sz xs k fz=>
   have ho:=h.bB e _ he;simp only[aj]at ho;rcases ho with h1|⟨h1,rfl,rfl⟩|⟨b,cap,arr,h1,h2,h3,h4,h5,h6,h7,h8,h9,h10,h11⟩
   ·refine⟨I,aQ.refl I,{h with bB:=λd o hd=>?_,bQ:=λd d' hd hd'=>?_}⟩
    ·rw[Sto.dV]at hd;cases hd':σ.get d with
     |none=>rw[hd']at hd;cases hd
     |some o2=>
      rw[hd']at hd;simp only[Option.map_some,Option.some.injEq]at hd;subst hd;split
      ·rename_i hm;simp at hm;subst hm;rw[he]at hd';cases hd';exact .inl h1
      ·exact h.bB d o2 hd'
    ·rw[Sto.dV,Option.isSome_map]at hd hd';exact h.bQ d d' hd hd'
   ·refine⟨I,aQ.refl I,{h with bB:=λd o hd=>?_,bQ:=λd d' hd hd'=>?_}⟩
    ·rw[Sto.dV]at hd;cases hd':σ.get d with
     |none=>rw[hd']at hd;cases hd
     |some o2=>
      rw[hd']at hd;simp only[Option.map_some,Option.some.injEq]at hd;subst hd;split
      ·rename_i hm;simp at hm;subst hm;rw[he]at hd';cases hd';exact .inr (.inl ⟨h1,rfl,rfl⟩)
      ·exact h.bB d o2 hd'
    ·rw[Sto.dV,Option.isSome_map]at hd hd';exact h.bQ d d' hd hd'
   ·let I':Imm:=I.on λb' o=>if b'=b∧o<xs.length*sz then arr[o]? else I b' o
    have hle:aQ I I':=λb' o v hv=>by
     cases o with
     |none=>exact hv
     |some o=>
     show(if b'=b∧o<xs.length*sz then arr[o]? else I b' o)=some v;split
     ·rename_i hh;obtain⟨rfl,hlt⟩:=hh;have hc:=h.good b' o v hv;simp only[World.cell?,h4]at hc;simpa using hc
     ·exact hv
    have dR:∀b' o,b'≠b→I' b' o=I b' o:=λb' o hne=>by
     cases o with
     |none=>rfl
     |some o=>
     show(if b'=b∧o<xs.length*sz then arr[o]? else I b' o)=_;rw[if_neg (λhh=>hne hh.1)]
    have hblk:blk (β e)=some b:=by rw[h1];rfl
    refine⟨I',hle,{good:=λb' o v hv=>?_,dO:=h.dO,eX:=λb' o v hv=>hle _ _ _ (h.eX _ _ _ hv),fU:=λb' hb hn o=>?_,frame:=h.frame,size:=h.size,tape:=h.tape,os:=h.os,output:=h.output,drawn:=h.drawn,bB:=λd o hd=>?_,bQ:=λd d' hd hd'=>?_,keep:=h.keep}⟩
    ·change (if b'=b∧o<xs.length*sz then arr[o]? else I b' o)=some v at hv
     split at hv
     ·rename_i hh;obtain⟨rfl,hlt⟩:=hh;simp only[World.cell?,h4];simpa using hv
     ·exact h.good b' o v hv
    ·have hne:b'≠b:=λe=>by
      subst e;rcases h11 with q|q
      ·omega
      ·exact hn q
     rw[dR b' o hne];exact h.fU b' hb hn o
    ·rw[Sto.dV]at hd;cases hd':σ.get d with
     |none=>rw[hd']at hd;cases hd
     |some o2=>
      rw[hd']at hd;simp only[Option.map_some,Option.some.injEq]at hd;subst hd;by_cases hde:d=e
      ·subst hde;rw[he]at hd';cases hd';simp only[List.mem_singleton,if_true,br.frz,aj];refine .inr (.inr ⟨b,cap,arr,h1,h2,h3,h4,h5,ef hle _ _ h6,h7,Nat.le_refl _,λ_ o ho=>?_,λo ho=>?_,h11⟩)
       ·show(if b=b∧o<xs.length*sz then arr[o]? else I b o)=_;rw[if_pos ⟨rfl,ho⟩]
       ·show(if b=b∧o<xs.length*sz then arr[o]? else I b o)=_;rw[if_neg (λhh=>by omega)];exact h10 o (Nat.le_trans (Nat.mul_le_mul_right _ h8) ho)
      ·have hm:d∉[e]:=by simpa using hde
       rw[if_neg hm]
       have hsep:∀b'∈bY (β d),b'≠b:=λb' hb' e'=>by
        subst e';exact h.bQ d e (by rw[hd'];rfl) (by rw[he];rfl) hde b' hb' (cR hblk)
       exact(h.bB d o2 hd').imm hle dR hsep
    ·rw[Sto.dV,Option.isSome_map]at hd hd';exact h.bQ d d' hd hd'
theorem aX.qI(h:aX G cx I β σ w):∀fz:List Nat,∃I',aQ I I'∧aX G cx I' β (σ.freeze fz) w:=by
 intro fz;induction fz generalizing σ I with
 |nil=>
  refine⟨I,aQ.refl I,h.sub λd o hd=>?_⟩;rw[Sto.dV]at hd;simpa using hd
 |cons e r ih=>
  obtain⟨I1,hle1,h1⟩:=h.akb e;obtain⟨I2,hle2,h2⟩:=ih h1;refine⟨I2,hle1.trans hle2,h2.sub λd o hd=>?_⟩;rw[Sto.dV]at hd;rw[Sto.dV,Sto.dV];cases hd':σ.get d with
  |none=>rw[hd']at hd;cases hd
  |some o2=>
   rw[hd']at hd;simp only[Option.map_some,Option.some.injEq]at hd ⊢;rw[←hd];have hff:o2.frz.frz=o2.frz:=by cases o2<;>rfl
   by_cases hde:d=e
   ·subst hde;by_cases hr:d∈r<;>simp[hr,hff]
   ·by_cases hr:d∈r<;>simp[hr,hde]
end sealing
theorem aU.freeze(G:Gl)(env:Env)(σ:Sto)(fz:List Nat):aU G env σ env (σ.freeze fz):=λcx I β a w h h'=>by
 obtain⟨I',hle,h2⟩:=h.qI fz;exact⟨I',β,h2,h'.mono hle (HLe.refl β)⟩
theorem aU.drop{G:Gl}{env bT:Env}{σ σ2:Sto}(he:∀p∈bT,eT σ (env.get p.1) p.2)(hs:∀p∈σ2,σ.get p.1=some p.2):aU G env σ bT σ2:=λcx I β a w h h'=>by
 have akc:∀(l:Env) t,l.get t=.dM∨∃p∈l,p.1=t∧l.get t=p.2:=by
  intro l;induction l with
  |nil=>exact λ_=>.inl rfl
  |cons x r ih=>
   intro t;obtain⟨k,v⟩:=x;rw[Env.aK];split
   ·rename_i hk;exact .inr ⟨(k,v),by simp,hk,rfl⟩
   ·rcases ih t with h|⟨p,h1,h2,h3⟩
    ·exact .inl h
    ·exact .inr ⟨p,by simp[h1],h2,h3⟩
 have akd:∀(l:Sto) d o,l.get d=some o→∃p∈l,p.1=d∧p.2=o:=by
  intro l;induction l with
  |nil=>intro d o h;simp[Sto.get]at h
  |cons x r ih=>
   intro d o h;obtain⟨k,v⟩:=x;rw[Sto.aK]at h;split at h
   ·rename_i hk;injection h with h;exact⟨(k,v),by simp,hk,h⟩
   ·obtain⟨p,h1,h2,h3⟩:=ih d o h;exact⟨p,by simp[h1],h2,h3⟩
 refine⟨I,β,h.sub λd o hd=>?_,λt=>?_⟩
 ·obtain⟨p,h1,h2,h3⟩:=akd σ2 d o hd;rw[←h2,←h3];exact hs p h1
 ·rcases akc bT t with h1|⟨p,h1,h2,h3⟩
  ·rw[h1];simp[Rep]
  ·rw[h3];subst h2;exact(he p h1).rep h _ (h' p.1)
theorem af.of{G:Gl}{Q:Exit→Env→Sto→Prop}{env:Env}{σ:Sto}(h:∀cx a w,o6 G cx env σ a w→c.wp G.P (λe a' w'=>∃env' σ',o6 G cx env' σ' a' w'∧Q e env' σ') a w):af G c Q env σ:=h
theorem af.use{G:Gl}{Q:Exit→Env→Sto→Prop}{env:Env}{σ:Sto}(h:af G c Q env σ)(cx:Cx)(a:Act)(w:World)(hr:o6 G cx env σ a w):c.wp G.P (λe a' w'=>∃env' σ',o6 G cx env' σ' a' w'∧Q e env' σ') a w:=h cx a w hr
attribute [irreducible] af
end
section
mutual
def AV.ren(r:Nat→Nat):AV→AV
 |.agg cs=>.agg (o9 r cs)
 |.tup cs=>.tup (o9 r cs)
 |.fn f cs=>.fn f (o9 r cs)
 |.own d=>.own (r d)
 |.ptr d o=>.ptr (r d) o
 |.hnd k d=>.hnd k (r d)
 |.bX d=>.bX (r d)
 |x=>x
def o9(r:Nat→Nat):List AV→List AV
 |[]=>[]
 |x::t=>x.ren r::o9 r t
end
mutual
theorem aan{I:Imm}{β β':Nat→Value}{r:Nat→Nat}{p:Nat→Bool}(h:∀d,p d=false→β' (r d)=β d):∀(x:AV) (v:Value),x.refs p=false→Rep I β x v→Rep I β' (x.ren r) v
 |.dM,_,_,_=>trivial
 |.undef,v,_,q=>by simp only[Rep,AV.ren]at q ⊢;exact q
 |.int _ _,v,_,q=>by simp only[Rep,AV.ren]at q ⊢;exact q
 |.bool _,v,_,q=>by simp only[Rep,AV.ren]at q ⊢;exact q
 |.str _,v,_,q=>by simp only[Rep,AV.ren]at q ⊢;exact q
 |.lst _ _,v,_,q=>by simp only[Rep,AV.ren]at q ⊢;exact q
 |.cV _,v,_,q=>by simp only[Rep,AV.ren]at q ⊢;exact q
 |.bI,v,_,q=>by simp only[Rep,AV.ren]at q ⊢;exact q
 |.lC,v,_,q=>by simp only[Rep,AV.ren]at q ⊢;exact q
 |.cfn _ _,v,_,q=>by simp only[Rep,AV.ren]at q ⊢;exact q
 |.sl0,v,_,q=>by simp only[Rep,AV.ren]at q ⊢;exact q
 |.mpf _,v,_,q=>by simp only[Rep,AV.ren]at q ⊢;exact q
 |.arr _,v,_,q=>by simp only[Rep,AV.ren]at q ⊢;exact q
 |.agg cs,v,e,q=>by
   simp only[Rep,AV.ren,AV.refs]at q e ⊢;obtain⟨vs,h1,h2⟩:=q;exact⟨vs,h1,ow h cs _ e h2⟩
 |.tup cs,v,e,q=>by
   simp only[Rep,AV.ren,AV.refs]at q e ⊢;obtain⟨vs,h1,h2⟩:=q;exact⟨vs,h1,ow h cs _ e h2⟩
 |.fn f cs,v,e,q=>by
   simp only[Rep,AV.ren,AV.refs]at q e ⊢;obtain⟨vs,h1,h2⟩:=q;exact⟨vs,h1,ow h cs _ e h2⟩
 |.own d,v,e,q=>by
   simp only[Rep,AV.ren,AV.refs]at q e ⊢;rw[h d e];exact q
 |.bX d,v,e,q=>by
   simp only[Rep,AV.ren,AV.refs]at q e ⊢;rw[h d e];exact q
 |.ptr d o,v,e,q=>by
   simp only[Rep,AV.ren,AV.refs]at q e ⊢;rw[h d e];exact q
 |.hnd k d,v,e,q=>by
   simp only[Rep,AV.ren,AV.refs]at q e ⊢;rw[h d e];exact q
theorem ow{I:Imm}{β β':Nat→Value}{r:Nat→Nat}{p:Nat→Bool}(h:∀d,p d=false→β' (r d)=β d):∀(x:List AV) (v:List Value),jX p x=false→aW I β x v→aW I β' (o9 r x) v
 |[],_,_,q=>q
 |x::xs,v,e,q=>by
   simp only[aW,o9,jX,Bool.or_eq_false_iff]at q e ⊢;obtain⟨u,us,h1,h2,h3⟩:=q;exact⟨u,us,h1,aan h x u e.1 h2,ow h xs us e.2 h3⟩
end
def pg(r:Nat→Nat):Option (Option Nat×Nat)→Option (Option Nat×Nat)
 |none=>none
 |some (i,t)=>some (i,r t)
def br.ren(r:Nat→Nat):br→br
 |.cells T cs=>.cells T (o9 r cs)
 |.iter dm since c0 seen=>.iter (r dm) since c0 seen
 |.hdr dm n=>.hdr (r dm) n
 |.b8 T e n h=>.b8 T (r e) n (pg r h)
 |.gh K E e keys h fx=>.gh K E (r e) keys (pg r h) fx
 |.slm T xs t=>.slm T xs (r t)
 |o=>o
def Env.ren(r:Nat→Nat)(env:Env):Env:=env.map λp=>(p.1,p.2.ren r)
def Sto.ren(r:Nat→Nat)(σ:Sto):Sto:=σ.map λp=>(r p.1,p.2.ren r)
theorem Env.adZ(r:Nat→Nat):∀(env:Env) t,(env.ren r).get t=(env.get t).ren r
 |[],t=>by simp[Env.ren,Env.get,AV.ren]
 |(k,v)::l,t=>by
  have:=Env.adZ r l t;simp only[Env.ren]at this ⊢;simp only[List.map_cons,Env.aK];split
  ·rfl
  ·exact this
def uL(r s:Nat→Nat)(ids:List Nat)(env:Env)(σ:Sto):Bool:=
 env.clean (λd=>!Nat.beq (s (r d)) d)&&σ.clean (λd=>!Nat.beq (s (r d)) d)&&ids.all (λd=>Nat.beq (s d) d)
theorem aU.ren{G:Gl}{env:Env}{σ:Sto}(r s:Nat→Nat)(hok:uL r s G.ids env σ=true):aU G env σ (env.ren r) (σ.ren r):=λcx I β a w h h'=>by
 simp only[uL,Bool.and_eq_true,List.all_eq_true,Nat.beq_eq]at hok;obtain⟨⟨h1,h2⟩,h3⟩:=hok
 have hb:∀d,(!Nat.beq (s (r d)) d)=false→(λx=>β (s x)) (r d)=β d:=λd hd=>by
  have:s (r d)=d:=by simpa using hd
  show β (s (r d))=β d;rw[this]
 have obj:∀d o,(σ.ren r).get d=some o→∃d0 o0,σ.get d0=some o0∧d=r d0∧o=o0.ren r∧s (r d0)=d0∧fV (λd=>!Nat.beq (s (r d)) d) o0=false:=by
  intro d o hd
  have key:∀(l:Sto),l.clean (λd=>!Nat.beq (s (r d)) d)=true→(Sto.ren r l).get d=some o→∃d0 o0,l.get d0=some o0∧d=r d0∧o=o0.ren r∧s (r d0)=d0∧fV (λd=>!Nat.beq (s (r d)) d) o0=false:=by
   intro l;induction l with
   |nil=>intro _ h;simp[Sto.ren,Sto.get]at h
   |cons x t ih=>
    obtain⟨k,v⟩:=x;intro hc h;simp only[Sto.clean,Bool.and_eq_true,Bool.not_eq_true',Bool.not_eq_false']at hc;simp only[Sto.ren,List.map_cons,Sto.aK]at h;have hk:s (r k)=k:=by simpa using hc.1.1
    split at h
    ·rename_i hkd;cases h;exact⟨k,v,by simp[Sto.aK],hkd.symm,rfl,hk,hc.1.2⟩
    ·rename_i hkd;obtain⟨d0,o0,q1,q2,q3,q4,q5⟩:=ih hc.2 h;refine⟨d0,o0,?_,q2,q3,q4,q5⟩;rw[Sto.aK,if_neg]
     ·exact q1
     ·intro e;subst e;exact hkd q2.symm
  exact key σ h2 hd
 refine⟨I,λx=>β (s x),{h with bB:=λd o hd=>?_,bQ:=λd d' hd hd' hne b=>?_,keep:=λd hd=>?_},λt=>?_⟩
 ·obtain⟨d0,o0,q1,rfl,rfl,q4,q5⟩:=obj d o hd;have ho:=h.bB d0 o0 q1;cases o0 with
  |cells T cs=>
   simp only[aj,br.ren,q4]at ho ⊢;rcases ho with q|⟨b,arr,e1,e2,e3,e4⟩
   ·exact .inl q
   ·exact .inr ⟨b,arr,e1,e2,ow (r:=r) hb cs _ q5 e3,e4⟩
  |slice T sz xs k fz=>simpa only[aj,br.ren,q4]using ho
  |map K E aL=>simpa only[aj,br.ren,q4]using ho
  |win T sz xs=>simpa only[aj,br.ren,q4]using ho
  |jA K E aL=>simpa only[aj,br.ren,q4]using ho
  |dI es clock K E aL=>simpa only[aj,br.ren,q4]using ho
  |iter dm since c0 seen=>
   have e:β (s (r dm))=β dm:=hb dm q5;simpa only[aj,br.ren,q4,e]using ho
  |hdr dm n=>
   have e:β (s (r dm))=β dm:=hb dm q5;simpa only[aj,br.ren,q4,e]using ho
  |bun els=>simpa only[aj,br.ren,q4]using ho
  |vec T xs=>simpa only[aj,br.ren,q4]using ho
  |ei es clock aL seen=>simpa only[aj,br.ren,q4]using ho
  |slm T xs t=>
   have e:β (s (r t))=β t:=hb t q5;simpa only[aj,br.ren,q4,e]using ho
  |b8 T e n hole=>
   simp only[fV,Bool.or_eq_false_iff]at q5;have e1:β (s (r e))=β e:=hb e q5.1
   have hh:∀hs as,eW (λx=>β (s x)) hs as (pg r hole)↔eW β hs as hole:=λhs as=>by
    cases hole with
    |none=>exact Iff.rfl
    |some q=>obtain⟨i,t⟩:=q;cases i<;>simp only[eW,pg,hb t q5.2]
   simpa only[aj,br.ren,q4,e1,hh]using ho
  |gh K E e keys hole fx=>
   simp only[fV,Bool.or_eq_false_iff]at q5;have e1:β (s (r e))=β e:=hb e q5.1
   have hh:∀hs as,eW (λx=>β (s x)) hs as (pg r hole)↔eW β hs as hole:=λhs as=>by
    cases hole with
    |none=>exact Iff.rfl
    |some q=>obtain⟨i,t⟩:=q;cases i<;>simp only[eW,pg,hb t q5.2]
   simpa only[aj,br.ren,q4,e1,hh]using ho
 ·obtain⟨o,hd⟩:=Option.isSome_iff_exists.1 hd;obtain⟨o',hd'⟩:=Option.isSome_iff_exists.1 hd';obtain⟨d0,o0,q1,rfl,_,q4,_⟩:=obj d o hd;obtain⟨d1,o1,p1,rfl,_,p4,_⟩:=obj d' o' hd';simp only[q4,p4];exact h.bQ d0 d1 (by rw[q1];rfl) (by rw[p1];rfl) (λe=>hne (by rw[e])) b
 ·have:=h3 d hd;simp only[this];exact h.keep d hd
 ·rw[Env.adZ];exact aan (r:=r) hb _ _ (Env.cm h1 t) (h' t)
variable {G:Gl}{σ:Sto}
theorem aU.ap3{env:Env}(t d:Nat)(T:TypeId)(sz:Nat)(hn:env.get t=.bI)(hd:σ.get d=none)(hi:G.ids.contains d=false)(hc:env.clean (Nat.beq d)=true)(hs:σ.clean (Nat.beq d)=true):
  aU G env σ ((t,.own d)::env) ((d,.slice T sz [] 0 false)::σ):=λcx I β a w h h'=>by
 let β':Nat→Value:=λx=>if x=d then .slice none 0 0 else β x
 have hb:∀x,Nat.beq d x=false→β' x=β x:=λx hx=>by
  have:x≠d:=λe=>by subst e;simp at hx
  show(if x=d then _ else β x)=_;rw[if_neg this]
 have hbd:β' d=.slice none 0 0:=by show(if d=d then _ else _)=_;rw[if_pos rfl]
 refine⟨I,β',{h with bB:=λx o e=>?_,bQ:=λx y ex ey hne b=>?_,keep:=λx hx=>?_},λu=>?_⟩
 ·rw[Sto.aK]at e;split at e
  ·rename_i hx;subst hx;cases e
   simp only[aj,hbd];exact .inr (.inl ⟨trivial,trivial,trivial⟩)
  ·obtain⟨c1,c2⟩:=Sto.cm hs x o e;exact(h.bB x o e).beta hb c1 c2
 ·rw[Sto.aK]at ex ey;by_cases hx:d=x
  ·subst hx;rw[hbd];simp[uE]
  ·by_cases hy:d=y
   ·subst hy;rw[hbd];simp[uE]
   ·rw[if_neg hx]at ex;rw[if_neg hy]at ey;rw[hb x (by rw[←Bool.not_eq_true,Nat.beq_eq];exact hx),hb y (by rw[←Bool.not_eq_true,Nat.beq_eq];exact hy)];exact h.bQ x y ex ey hne b
 ·have:d≠x:=λe=>by subst e;simp at hi;exact hi hx
  rw[hb x (by rw[←Bool.not_eq_true,Nat.beq_eq];exact this)];exact h.keep x hx
 ·rw[Env.aK];split
  ·rename_i ht;subst ht;have:=h' t;rw[hn]at this;simp only[Rep,aB]at this;simp only[Rep,this,hbd,fP,and_self]
  ·exact kP hb _ _ (Env.cm hc u) (h' u)
def AV.aao:AV→Prop
 |.lst _ xs=>xs.length≤maxLen
 |_=>True
def ahd:List AV→Prop
 |[]=>True
 |x::r=>x.aao∧ahd r
def AV.bnd:AV→Prop
 |.lst _ xs=>xs.length≤maxLen
 |.agg cs=>ahd cs
 |_=>True
def aap:List AV→Prop
 |[]=>True
 |x::r=>x.bnd∧aap r
theorem Rep.aao{I:Imm}{β:Nat→Value}{a:AV}{v:Value}(h:Rep I β a v):a.aao:=by
 cases a<;>simp only[AV.aao]
 simp only[Rep,aB]at h;obtain⟨_,_,_,h1,h2,_⟩:=h;omega
theorem aW.bnd{I:Imm}{β:Nat→Value}:∀{a:List AV} {v:List Value},aW I β a v→ahd a
 |[],_,_=>trivial
 |x::r,_,h=>by
  simp only[aW]at h;obtain⟨_,_,_,h1,h2⟩:=h;exact⟨h1.aao,aW.bnd h2⟩
theorem Rep.bnd{I:Imm}{β:Nat→Value}{a:AV}{v:Value}(h:Rep I β a v):a.bnd:=by
 cases a<;>simp only[AV.bnd]
 ·exact h.aao
 ·simp only[Rep]at h;obtain⟨_,_,h⟩:=h;exact h.bnd
theorem aW.aap{I:Imm}{β:Nat→Value}:∀{a:List AV} {v:List Value},aW I β a v→aap a
 |[],_,_=>trivial
 |x::r,_,h=>by
  simp only[aW]at h;obtain⟨_,_,_,h1,h2⟩:=h;exact⟨h1.bnd,aW.aap h2⟩
theorem A.bnd{G:Gl}{c:Code}{Q:Exit→Env→Sto→Prop}{env:Env}{σ:Sto}(t:Nat)(k:(env.get t).bnd→af G c Q env σ):af G c Q env σ:=by
 refine af.of λcx a w hr=>?_;obtain⟨I,β,h1,h2,h3,h4⟩:=hr;exact(k (h2 t).bnd).use cx a w ⟨I,β,h1,h2,h3,h4⟩
def Sto.ids(σ:Sto):List Nat:=σ.map (·.1)
def b9(P:Program)(f:FuncId)(σ0:Sto)(args:List AV)(Post:AV→Sto→Prop):Prop:=
 ∀(cx:Cx) (w:World) (I:Imm) (β:Nat→Value) (vs:List Value),aX ⟨P,0,σ0.ids⟩ cx I β σ0 w→aW I β args vs→
  Calls P f vs.toArray w (λe w'=>∃v,e=.returned v∧∃r σ' I' β',Post r σ'∧Rep I' β' r v∧aX ⟨P,0,σ0.ids⟩ cx I' β' σ' w')
theorem b9.mono{P:Program}{f:FuncId}{σ0:Sto}{args:List AV}{Post Post':AV→Sto→Prop}(h:b9 P f σ0 args Post)(hp:∀r σ',Post r σ'→Post' r σ'):b9 P f σ0 args Post':=
 λcx w I β vs h1 h2=>Calls.mono (h cx w I β vs h1 h2) λ_ _ ⟨v,he,r,σ',I',β',q1,q2,q3⟩=>⟨v,he,r,σ',I',β',hp _ _ q1,q2,q3⟩
def RO(P:Program)(f:FuncId)(σ0:Sto)(args:List AV)(r:AV):Prop:=b9 P f σ0 args (λa σ'=>a=r∧σ'=σ0)
structure TyS(P:Program)(T:TypeId)(n:Nat)(ag:Bool):Prop where
 size:∀w,(sizeOf T).run P w=.ok n w
 agg:∀w,(isAgg T).run P w=.ok ag w
def lD(ag:Bool)(n:Nat)(cs:List AV):AV:=bif ag then .agg (cs.take n)else cs.headD .dM
theorem oO{I:Imm}{β:Nat→Value}:∀(k:Nat) (cs:List AV) (vs:List Value),aW I β cs vs→aW I β (cs.drop k) (vs.drop k)
 |0,_,_,h=>by simpa using h
 |k+1,[],vs,h=>by simp only[aW]at h;subst h;simp[aW]
 |k+1,x::r,vs,h=>by
  simp only[aW]at h;obtain⟨u,us,rfl,_,h2⟩:=h;simpa using oO k r us h2
theorem oP{I:Imm}{β:Nat→Value}:∀(k:Nat) (cs:List AV) (vs:List Value),aW I β cs vs→aW I β (cs.take k) (vs.take k)
 |0,_,_,_=>by simp[aW]
 |k+1,[],vs,h=>by simp only[aW]at h;subst h;simp[aW]
 |k+1,x::r,vs,h=>by
  simp only[aW]at h;obtain⟨u,us,rfl,h1,h2⟩:=h;simp only[List.take_succ_cons,aW];exact⟨u,_,rfl,h1,oP k r us h2⟩
theorem dY(b o n:Nat):Addr.add ⟨b,o,none⟩ n=⟨b,o+n,none⟩:=by
 unfold Addr.add;split<;>simp_all
variable {P:Program}{T:TypeId}{ag:Bool}{b:Nat}{w:World}
theorem iy{n:Nat}(hT:TyS P T n ag){off:Nat}{vs:List Value}(h:∀j,j<n→∃v,vs[j]?=some v∧w.cell? ⟨b,off+j,none⟩=some v)(hn:ag=false→0<n):
  (loadVar T ⟨b,off,none⟩).run P w=.ok (if ag then .agg (vs.take n).toArray else vs.headD undef) w:=by
 unfold loadVar;simp only[Sem.run_bind,hT.agg,Result.andThen_ok];cases ag with
 |true=>
  simp only[if_true,Sem.run_bind,hT.size,Result.andThen_ok];have:(loadCells ⟨b,off,none⟩ n).run P w=.ok (vs.take n).toArray w:=by
   have hlen:(vs.take n).length=n:=by
    rw[List.length_take];rcases Nat.lt_or_ge vs.length n with hl|hl
    ·obtain⟨v,h1,_⟩:=h vs.length hl;simp at h1
    ·omega
   have key:=run_loadCells_list (P:=P) w ⟨b,off,none⟩ (vs.take n) (λj v hv=>by
    rw[List.getElem?_take]at hv;split at hv
    ·rename_i hj;obtain⟨v',h1,h2⟩:=h j hj;rw[h1]at hv;cases hv;rw[dY];exact h2
    ·cases hv)
   rw[hlen]at key;exact key
  rw[this];rfl
 |false=>
  obtain⟨v,h1,h2⟩:=h 0 (hn rfl);simp only[load];simp only[Bool.false_eq_true,if_false,Sem.run];rw[show(⟨b,off,none⟩:Addr)=⟨b,off+0,none⟩from rfl,h2];cases vs with
  |nil=>simp at h1
  |cons x r=>simp at h1;subst h1;rfl
theorem aaq{I:Imm}{β:Nat→Value}:∀(xs:List Int) (vs:List Value),aW I β (xs.map (AV.int .i64)) vs→vs=xs.map (Value.int .i64)
 |[],vs,h=>by simpa only[List.map_nil,aW]using h
 |x::r,vs,h=>by
  simp only[List.map_cons,aW]at h;obtain⟨u,us,rfl,h1,h2⟩:=h;rw[show u=Value.int .i64 x by simpa [Rep,aB]using h1,aaq r us h2];rfl
theorem xK{I:Imm}{β:Nat→Value}:∀(xs:List Int),aW I β (xs.map (AV.int .i64)) (xs.map (Value.int .i64))
 |[]=>by simp[aW]
 |x::r=>by simp only[List.map_cons,aW];exact⟨_,_,rfl,by simp[Rep,aB],xK r⟩
variable {I:Imm}{β:Nat→Value}
theorem aar{xs:List Int}{v:Value}:Rep I β (.agg (xs.map (AV.int .i64))) v↔Rep I β (.arr xs) v:=by
 simp only[Rep,aB];constructor
 ·rintro⟨vs,rfl,h⟩;rw[←aaq xs _ h]
 ·rintro rfl;exact⟨_,rfl,by simpa using xK xs⟩
inductive oy(G:Gl)(env:Env)(σ:Sto):ResultVar→AV→Prop
 |tmp (t:Nat):oy G env σ (.tmp t) (env.get t)
 |cell (a T d:Nat) (T' n:Nat) (ag:Bool) (cs:List AV) (ha:env.get a=.ptr d 0) (hd:σ.get d=some (.cells T' cs)) (hT:TyS G.P T n ag) (hn:cs.length=n) (h0:ag=false→0<n):oy G env σ (.cell a T) (lD ag n cs)
 |arr (a T d:Nat) (T' n:Nat) (xs:List Int) (ha:env.get a=.ptr d 0) (hd:σ.get d=some (.vec T' xs)) (hT:TyS G.P T n true) (hn:xs.length=n):oy G env σ (.cell a T) (.arr xs)
def zw(tmps:Array Value):ResultVar→Sem Value
 |.tmp t=>pure (tmps.getD t undef)
 |.cell a t=>do loadVar t (←asAddr (tmps.getD a undef))
variable {T':TypeId}
theorem aX.box{cx:Cx}(hw:aX G cx I β σ w){d:Nat}{cs:List AV}(hd:σ.get d=some (.cells T' cs))(hb:blk (β d)=some b):
  ∃arr,β d=.pointer (some ⟨b,0,none⟩)∧w.heap[b]?=some (.cells arr T' (0,0))∧aW I β cs arr.toList∧(∀o,I b o=none)∧Place cx b:=by
 have ho:=hw.bB d _ hd;simp only[aj]at ho;rcases ho with q|⟨b2,arr,q1,q2,q3,q4,q5⟩
 ·rw[q]at hb;simp[blk]at hb
 ·have:b2=b:=by rw[q1]at hb;simpa [blk]using hb
  subst this;exact⟨arr,q1,q2,q3,q4,q5⟩
theorem pq{n:Nat}(hT:TyS P T n ag)(h0:ag=false→0<n){off:Nat}{arr:Array Value}{cs:List AV}(hb:w.heap[b]?=some (.cells arr T' (0,0)))
  (hr:aW I β cs arr.toList) (hn:off+n≤cs.length):∃v,(loadVar T ⟨b,off,none⟩).run P w=.ok v w∧Rep I β (lD ag n (cs.drop off)) v:=by
 have hl:=gd _ _ hr
 have hcell:∀j,j<n→∃v,(arr.toList.drop off)[j]?=some v∧w.cell? ⟨b,off+j,none⟩=some v:=λj hj=>by
  have hj':off+j<arr.toList.length:=by omega
  refine⟨arr.toList[off+j],by rw[List.getElem?_drop];exact List.getElem?_eq_getElem hj',?_⟩;simp only[World.cell?,hb];simpa using List.getElem?_eq_getElem hj'
 refine⟨_,iy hT hcell h0,?_⟩;have hd:=oO off _ _ hr;cases ag with
 |true=>
  simp only[lD,cond_true,if_true,Rep];exact⟨_,rfl,by simpa using oP n _ _ hd⟩
 |false=>
  simp only[lD,cond_false,Bool.false_eq_true,if_false];generalize cs.drop off=ds at hd;cases ds with
  |nil=>simp[Rep]
  |cons x r=>
   simp only[aW]at hd;obtain⟨u,us,e,hd,_⟩:=hd;rw[e];exact hd
theorem oy.run{G:Gl}{env:Env}{σ:Sto}{r:ResultVar}{x:AV}(h:oy G env σ r x){cx:Cx}{I:Imm}{β:Nat→Value}{w:World}{a:Act}(hw:aX G cx I β σ w)(ht:jc I β env a):
  ∃v,Rep I β x v∧(zw a.tmps r).run G.P w=.ok v w:=by
 cases h with
 |tmp t=>exact⟨_,ht t,rfl⟩
 |cell b T d T' n ag cs ha hd hT hn h0=>
  have h1:=ht b;rw[ha]at h1;simp only[Rep]at h1;obtain⟨b',hb1,hb2⟩:=h1;obtain⟨arr,q1,q2,q3,_⟩:=hw.box hd hb1;obtain⟨v,r1,r2⟩:=pq hT h0 (off:=0) q2 q3 (by omega);refine⟨v,by simpa using r2,?_⟩;simp only[zw,hb2,asAddr,Sem.run_bind,Sem.run_pure,Result.andThen_ok];exact r1
 |arr b T d T' n xs ha hd hT hn=>
  have h1:=ht b;rw[ha]at h1;simp only[Rep]at h1;obtain⟨b',hb1,hb2⟩:=h1;have ho:=hw.bB d _ hd;simp only[aj]at ho;rcases ho with q|⟨b2,arr,e1,e2,e3,_⟩
  ·rw[q]at hb1;cases hb1
  have hbb:b2=b':=by rw[e1]at hb1;simpa [blk]using hb1
  subst hbb;obtain⟨v,r1,r2⟩:=pq (I:=I) (β:=β) (cs:=xs.map (AV.int .i64)) hT (by simp) (off:=0) e2 (by rw[e3];exact xK xs) (by simp;omega);refine⟨v,aar.1 ?_,?_⟩
  ·simp only[lD,cond_true,List.drop_zero]at r2;rw[List.take_of_length_le (by simp;omega)]at r2;exact r2
  ·simp only[zw,hb2,asAddr,Sem.run_bind,Sem.run_pure,Result.andThen_ok];exact r1
inductive yK(G:Gl)(env:Env)(σ:Sto):List ResultVar→List AV→Prop
 |nil:yK G env σ [] []
 |cons {r:ResultVar} {x:AV} {rs:List ResultVar} {xs:List AV} (h:oy G env σ r x) (k:yK G env σ rs xs):yK G env σ (r::rs) (x::xs)
theorem yK.run{G:Gl}{env:Env}{σ:Sto}{rs:List ResultVar}{xs:List AV}(h:yK G env σ rs xs){cx:Cx}{I:Imm}{β:Nat→Value}{w:World}{a:Act}(hw:aX G cx I β σ w)(ht:jc I β env a):
  ∃vs:List Value,aW I β xs vs∧(rs.mapM (zw a.tmps)).run G.P w=.ok vs w∧vs.length=rs.length:=by
 induction h with
 |nil=>exact⟨[],rfl,rfl,rfl⟩
 |cons h _ ih=>
  obtain⟨v,h1,h2⟩:=h.run hw ht;obtain⟨vs,k1,k2,k3⟩:=ih;refine⟨v::vs,⟨v,vs,rfl,h1,k1⟩,?_,by simp[k3]⟩;simp[List.mapM_cons,Sem.run_bind,h2,k2]
inductive qg(G:Gl)(env:Env)(σ:Sto):List ResultVar→AV→Prop
 |zero:qg G env σ [] (.tup [])
 |one {r:ResultVar} {x:AV} (h:oy G env σ r x):qg G env σ [r] x
 |two {r s:ResultVar} {x y:AV} (h:oy G env σ r x) (k:oy G env σ s y):qg G env σ [r,s] (.tup [x,y])
 |three {r s t:ResultVar} {x y z:AV} (h:oy G env σ r x) (k:oy G env σ s y) (l:oy G env σ t z):qg G env σ [r,s,t] (.tup [x,y,z])
 |more {rs:List ResultVar} {xs:List AV} (h:yK G env σ rs xs) (hl:4≤rs.length):qg G env σ rs (.tup xs)
theorem qg.run{G:Gl}{env:Env}{σ:Sto}{fn:Func}{x:AV}(h:qg G env σ fn.results.toList x){cx:Cx}{I:Imm}{β:Nat→Value}{w:World}{a:Act}(hw:aX G cx I β σ w)(ht:jc I β env a):
  ∃v,Rep I β x v∧(results fn a.tmps).run G.P w=.ok v w:=by
 generalize hl:fn.results.toList=l at h;have hr:fn.results=l.toArray:=by rw[←hl]
 have he:results fn a.tmps=(do let vs ←l.toArray.mapM (zw a.tmps);pure (if h:vs.size=1 then vs[0]else .tuple vs)):=by
  unfold results;rw[hr];rfl
 rw[he];cases h with
 |zero=>exact⟨.tuple #[],by simp[Rep,aW],by simp⟩
 |one h=>
  obtain⟨v,h1,h2⟩:=h.run hw ht;refine⟨v,h1,?_⟩;simp[List.mapM_cons,Sem.run_bind,h2]
 |two h k=>
  obtain⟨v,h1,h2⟩:=h.run hw ht;obtain⟨u,k1,k2⟩:=k.run hw ht;refine⟨.tuple #[v,u],?_,?_⟩
  ·simp only[Rep];exact⟨_,rfl,v,[u],rfl,h1,u,[],rfl,k1,rfl⟩
  ·simp[List.mapM_cons,Sem.run_bind,h2,k2]
 |three h k l=>
  obtain⟨v,h1,h2⟩:=h.run hw ht;obtain⟨u,k1,k2⟩:=k.run hw ht;obtain⟨t,l1,l2⟩:=l.run hw ht;refine⟨.tuple #[v,u,t],?_,?_⟩
  ·simp only[Rep];exact⟨_,rfl,v,[u,t],rfl,h1,u,[t],rfl,k1,t,[],rfl,l1,rfl⟩
  ·simp[List.mapM_cons,Sem.run_bind,h2,k2,l2]
 |more h hl4=>
  obtain⟨vs,k1,k2,k3⟩:=h.run hw ht;refine⟨.tuple vs.toArray,⟨vs.toArray,rfl,by simpa using k1⟩,?_⟩;have hne:¬vs.length=1:=by omega
  simp[Sem.run_bind,k2,hne]
def r9:Nat→List AV→Env
 |_,[]=>[]
 |k,x::r=>(k,x)::r9 (k+1) r
theorem yb{I:Imm}{β:Nat→Value}:∀(as:List AV) (vs:List Value) (k t:Nat),aW I β as vs→Rep I β ((r9 k as).get t) (if k≤t then vs.getD (t-k) undef else undef)∨(r9 k as).get t=.dM
 |[],_,_,_,_=>.inr rfl
 |x::r,vs,k,t,h=>by
  simp only[aW]at h;obtain⟨u,us,rfl,h1,h2⟩:=h;simp only[r9,Env.aK];split
  ·rename_i hk;subst hk;left;simpa using h1
  ·rename_i hk;rcases yb r us (k+1) t h2 with q|q
   ·left;by_cases hlt:k+1≤t
    ·rw[if_pos hlt]at q;rw[if_pos (by omega),show t-k=(t-(k+1))+1 from by omega,List.getD_cons_succ];exact q
    ·rw[if_neg hlt]at q;rw[if_neg (by omega)];exact q
   ·exact .inr q
def ad0(G:Gl)(fn:Func)(Post:AV→Sto→Prop):Exit→Env→Sto→Prop
 |.normal,env,σ|.ret,env,σ=>∃fz x r σ',qg G env (σ.freeze fz) fn.results.toList x∧eT (σ.freeze fz) x r∧(∀p∈σ',(σ.freeze fz).get p.1=some p.2)∧Post r σ'
 |_,_,_=>False
theorem jo:∀(l:Sto) d o,l.get d=some o→∃p∈l,p.1=d∧p.2=o:=by
 intro l;induction l with
 |nil=>intro d o h;simp[Sto.get]at h
 |cons x r ih=>
  intro d o h;obtain⟨k,v⟩:=x;rw[Sto.aK]at h;split at h
  ·rename_i hk;injection h with h;exact⟨(k,v),by simp,hk,h⟩
  ·obtain⟨p,h1,h2,h3⟩:=ih d o h;exact⟨p,by simp[h1],h2,h3⟩
theorem b9.enter{f:FuncId}{fn:Func}{c:Code}{σ0:Sto}{args:List AV}{Post:AV→Sto→Prop}(hf:P.funcs[f]?=some fn)(hb:fn.body=some c)(hN:args.length≤fn.ntmps)
  (h:aap args→af ⟨P,fn.ntmps,σ0.ids⟩ c (ad0 ⟨P,fn.ntmps,σ0.ids⟩ fn Post) (r9 0 args) σ0):b9 P f σ0 args Post:=by
 intro cx w I β vs hw hr;have hlen:=gd _ _ hr;have hw':aX ⟨P,fn.ntmps,σ0.ids⟩ cx I β σ0 w:={hw with};refine calls_of_wp hf hb ?_;refine wp_mono ((h hr.aap).use cx _ w ⟨I,β,hw',λt=>?_,?_,rfl⟩) ?_
 ·rcases yb args vs 0 t hr with q|q
  ·have:((vs.toArray++Array.replicate (fn.ntmps-vs.toArray.size) undef).getD t undef)=vs.getD t undef:=by
    rw[Array.getD_eq_getD_getElem?,Array.getElem?_append,List.getD_eq_getElem?_getD];split
    ·simp
    ·rename_i hge;have:vs[t]?=none:=List.getElem?_eq_none (by simpa using hge);rw[this,Array.getElem?_replicate];split<;>rfl
   rw[this];simpa using q
  ·rw[q];simp[Rep]
 ·simp;omega
 ·rintro e a' w' ⟨env',σ',⟨I',β',r1,r2,r3,r4⟩,hq⟩
  have fin:(∃fz x r σ2,qg ⟨P,fn.ntmps,σ0.ids⟩ env' (σ'.freeze fz) fn.results.toList x∧eT (σ'.freeze fz) x r∧(∀p∈σ2,(σ'.freeze fz).get p.1=some p.2)∧Post r σ2)→
    a'.defers=[]∧∃v,(results fn a'.tmps).run P w'=.ok v w'∧(∃v1,Ending.returned v=.returned v1∧∃r σ' I' β',Post r σ'∧Rep I' β' r v1∧aX ⟨P,0,σ0.ids⟩ cx I' β' σ' w'):=by
   rintro⟨fz,x,r,σ2,q1,q2,q3,q4⟩;obtain⟨I2,hle,hw2⟩:=r1.qI fz;obtain⟨v,s1,s2⟩:=q1.run hw2 (r2.mono hle (HLe.refl _));refine⟨r4,v,s2,v,rfl,r,σ2,I2,β',q4,q2.rep hw2 _ s1,?_⟩
   have:=hw2.sub (σ2:=σ2) λd o hd=>by
    obtain⟨p,p1,p2,p3⟩:=jo σ2 d o hd;rw[←p2,←p3];exact q3 p p1
   exact{this with}
  cases e with
  |normal=>exact fin hq
  |ret=>exact fin hq
  |exit _=>exact hq.elim
  |goto _=>exact hq.elim
  |panic _=>exact hq.elim
  |outgrown=>exact hq.elim
end
section
theorem Yields.pure{G:Gl}{o:Oper}{ev:Operand→AV}{σ:Sto}{R:List Nat}{av:AV}
  (h:∀(σ':Sto) (cx:Cx) (I:Imm) (β:Nat→Value) (w:World) (ρ:Operand→Value),(∀d∈R,σ'.get d=σ.get d)→aX G cx I β σ' w→(∀x∈o.op.operands,Rep I β (ev x) (ρ x))→
   ∃v,(execOp ρ o).run G.P w=.ok (.value v) w∧Rep I β av v):Yields G o ev σ [] R av:=by
 intro σ' cx I β w ρ h1 h2 _ h4;obtain⟨v,hr,hv⟩:=h σ' cx I β w ρ h1 h2 h4;rw[hr];exact⟨I,β,hv,h2,aQ.refl I,λ_ _=>rfl⟩
theorem dU.of{G:Gl}{o:Oper}{ev:Operand→AV}{σ:Sto}{R:List Nat}{av:AV}(h:Yields G o ev σ [] R av):dU G o ev σ [] [] (λa σ'=>a=av∧σ'=σ):=by
 intro cx I β w ρ hw hx;have:=h σ cx I β w ρ (λ_ _=>rfl) hw (λd hd=>by simp at hd) hx;generalize (execOp ρ o).run G.P w=r at this;cases r with
 |halt x w'=>exact this.elim
 |ok n w'=>
  have key:∀v w'',(∃I' β',Rep I' β' av v∧aX G cx I' β' σ w''∧aQ I I'∧(∀d,d∉([]:List Nat)→β' d=β d))→∃av1 σ' I' β',(av1=av∧σ'=σ)∧Rep I' β' av1 v∧aX G cx I' β' σ' w''∧aQ I I'∧
    (∀d,d∉([]:List Nat)→β' d=β d)∧(∀d,d∉([]:List Nat)→σ'.get d=σ.get d):=
   λv w'' ⟨I',β',q1,q2,q3,q4⟩=>⟨av,σ,I',β',⟨rfl,rfl⟩,q1,q2,q3,q4,λ_ _=>rfl⟩
  cases n<;>simp only[gK]at this ⊢
  ·exact key _ _ this
  ·exact key _ _ this
  ·exact Calls.mono this λ_ _ ⟨v,he,hv⟩=>⟨v,he,key _ _ hv⟩
section steps
variable {G:Gl}{ops:Array Oper}{s:Sch}{log:List (Nat×List Nat)}{i:Nat}{l:List Nat}{env:Env}{σ:Sto}{K:Env→Sto→Prop}{o:Oper}{av:AV}
theorem Want.n(hg:o.guard=none):Want ops o env:=by unfold Want;rw[hg];trivial
theorem Want.g{j:Nat}{want p:Bool}{oj:Oper}{dj:Nat}(hg:o.guard=some (j,want))(hj:ops[j]?=some oj)(hd:oj.dst=some dj)(he:env.get dj=.bool p)(hp:p=want):Want ops o env:=by
 unfold Want;rw[hg];exact⟨oj,dj,hj,hd,by rw[he,hp]⟩
theorem jB.g{j:Nat}{want p:Bool}{oj:Oper}{dj:Nat}(hg:o.guard=some (j,want))(hj:ops[j]?=some oj)(hd:oj.dst=some dj)(he:env.get dj=.bool p)(hp:p=!want):jB ops o env:=by
 unfold jB;rw[hg];exact⟨oj,dj,hj,hd,.inl (by rw[he,hp])⟩
theorem jB.undef{j:Nat}{want:Bool}{oj:Oper}{dj:Nat}(hg:o.guard=some (j,want))(hj:ops[j]?=some oj)(hd:oj.dst=some dj)(he:env.get dj=.undef):jB ops o env:=by
 unfold jB;rw[hg];exact⟨oj,dj,hj,hd,.inr he⟩
def isP(s:Sch)(i:Nat):Bool:=!(s.dr&&s.es.contains i)
def isE(s:Sch)(i:Nat):Bool:=!s.dr||s.es.contains i
theorem yL(h:isP s i=true):s.dr=true→i∉s.es:=λhd=>by simpa [isP,hd]using h
theorem ace(h:isE s i=true):s.dr=true→i∈s.es:=λhd=>by simpa [isE,hd]using h
def abY(σ:Sto)(R:List Nat):Bool:=R.all λd=>(σ.get d).isSome
theorem aep{R:List Nat}(h:abY σ R=true):∀d∈R,(σ.get d).isSome:=λd hd=>List.all_eq_true.1 h d hd
theorem C.y{R:List Nat}(ho:ops[i]?=some o)(hw:Want ops o env)(hs:isP s i=true)(hR:abY σ R=true)(hY:Yields G o env.ev σ [] R av)
  (k:Cert G ops s ((i,R)::log) l (env.put o.dst av) σ K):Cert G ops s log (i::l) env σ K:=
 ⟨o,ho,.inr (.inl ⟨hw,yL hs,[],R,av,σ,uG.none G σ env,aep hR,λd hd=>by simp at hd,hY,k⟩)⟩
theorem C.skip(ho:ops[i]?=some o)(hw:jB ops o env)(hs:isP s i=true)(k:Cert G ops s ((i,[])::log) l (env.put o.dst .undef) σ K):Cert G ops s log (i::l) env σ K:=
 ⟨o,ho,.inl ⟨hw,yL hs,k⟩⟩
theorem C.ap4(ho:ops[i]?=some o)(hw:jB ops o env)(hs:isE s i=true)(k:Cert G ops s log l (env.put o.dst .undef) σ K):Cert G ops s log (i::l) env σ K:=
 ⟨o,ho,.inr (.inr (.inr ⟨hw,ace hs,k⟩))⟩
theorem C.v{d:Nat}{ob:br}(ho:ops[i]?=some o)(hw:Want ops o env)(hs:isP s i=true)(hi:G.ids.contains d=false)(he:env.clean [d].contains=true)(hc:σ.clean [d].contains=true)(hh:amf ob=true)
  (hY:Yields G o env.ev ((d,ob)::σ) [d] [d] av) (k:Cert G ops s ((i,[d])::log) l (env.put o.dst av) ((d,ob)::σ) K):Cert G ops s log (i::l) env σ K:=
 ⟨o,ho,.inr (.inl ⟨hw,yL hs,[d],[d],av,(d,ob)::σ,⟨λx hx=>by rw[Sto.aK,if_neg (λe=>hx (by simp[e]))],λx hx=>by simp at hx;subst hx;simpa using hi,he,hc,λx hx dm n h=>by simp at hx;subst hx;rw[Sto.aK,if_pos rfl]at h;cases h;cases hh⟩,
  λx hx=>by simp at hx;subst hx;simp[Sto.aK],λx hx=>hx,hY,k⟩)⟩
theorem C.e{M news:List Nat}{Φ:AV→Sto→Prop}(ho:ops[i]?=some o)(hw:Want ops o env)(hs:isE s i=true)(hD:dU G o env.ev σ M news Φ)(hl:(!s.dr||nJ s i M log)=true)
  (hc:env.clean news.contains=true) (hn:news.all (λd=>!G.ids.contains d&&(σ.get d).isNone)=true) (k:∀av σ',Φ av σ'→Cert G ops s log l (env.put o.dst av) σ' K):Cert G ops s log (i::l) env σ K:=
 ⟨o,ho,.inr (.inr (.inl ⟨hw,ace hs,M,news,Φ,hD,λhd=>by simpa [hd]using hl,hc,λd hd=>by
  have:=List.all_eq_true.1 hn d hd;simpa using this,k⟩))⟩
theorem C.ey{R:List Nat}(ho:ops[i]?=some o)(hw:Want ops o env)(hs:isE s i=true)(hY:Yields G o env.ev σ [] R av)(k:Cert G ops s log l (env.put o.dst av) σ K):Cert G ops s log (i::l) env σ K:=by
 have uK:∀log:List (Nat×List Nat),nJ s i [] log=true:=by
  intro log;induction log with
  |nil=>rfl
  |cons x r ihh=>obtain⟨k,R⟩:=x;simp[nJ,ihh]
 exact C.e ho hw hs (dU.of hY) (by simp[uK]) (Env.gi env) rfl (λa σ' ⟨h1,h2⟩=>by subst h1 h2;exact k)
theorem C.nil(k:K env σ):Cert G ops s log [] env σ K:=k
theorem C.split(p:Bool)(h1:p=true→Cert G ops s log l env σ K)(h2:p=false→Cert G ops s log l env σ K):Cert G ops s log l env σ K:=by
 cases p
 ·exact h2 rfl
 ·exact h1 rfl
theorem Cert.mono{K':Env→Sto→Prop}(hk:∀env σ,K env σ→K' env σ):∀{l:List Nat} {log:List (Nat×List Nat)} {env:Env} {σ:Sto},Cert G ops s log l env σ K→Cert G ops s log l env σ K'
 |[],_,_,_,h=>hk _ _ h
 |_::_,_,_,_,⟨o,ho,h⟩=>⟨o,ho,by
  rcases h with⟨h1,h2,h3⟩|⟨h1,h2,mat,R,av,σ2,hv,hR,hM,hY,h3⟩|⟨h1,h2,M,news,Φ,hD,wC,hcl,hnew,h3⟩|⟨h1,h2,h3⟩
  ·exact .inl ⟨h1,h2,Cert.mono hk h3⟩
  ·exact .inr (.inl ⟨h1,h2,mat,R,av,σ2,hv,hR,hM,hY,Cert.mono hk h3⟩)
  ·exact .inr (.inr (.inl ⟨h1,h2,M,news,Φ,hD,wC,hcl,hnew,λa σ' hΦ=>Cert.mono hk (h3 a σ' hΦ)⟩))
  ·exact .inr (.inr (.inr ⟨h1,h2,Cert.mono hk h3⟩))⟩
end steps
section ops
variable {G:Gl}{o:Oper}{ev:Operand→AV}{σ:Sto}
theorem Y.move{x:Operand}(h:o.op=.move x):Yields G o ev σ [] [] (ev x):=
 .pure λ_ _ _ _ w ρ _ _ hx=>⟨ρ x,by simp[execOp,h],hx x (by simp[h,Op.operands])⟩
theorem Y.assign{x:Operand}(h:o.op=.assign x):Yields G o ev σ [] [] (ev x):=
 .pure λ_ _ _ _ w ρ _ _ hx=>⟨ρ x,by simp[execOp,h],hx x (by simp[h,Op.operands])⟩
theorem nh{I:Imm}{β:Nat→Value}{b:Bool}{v:Value}(h:Rep I β (.bool b) v):v=.bool b:=by simpa [Rep,aB]using h
theorem de{I:Imm}{β:Nat→Value}{k:IntKind}{n:Int}{v:Value}(h:Rep I β (.int k n) v):v=.int k n:=by simpa [Rep,aB]using h
theorem ad1{I:Imm}{β:Nat→Value}{s:ByteArray}{v:Value}(h:Rep I β (.str s) v):v=.string s:=by simpa [Rep,aB]using h
theorem Y.pick{c a b:Operand}{p:Bool}(h:o.op=.pick c a b)(hc:ev c=.bool p):Yields G o ev σ [] [] (bif p then ev a else ev b):=
 .pure λ_ _ I β w ρ _ _ hx=>by
  have h1:=hx c (by simp[h,Op.operands]);rw[hc]at h1
  have h1:=nh h1;refine⟨if p then ρ a else ρ b,by simp[execOp,h,h1,asBool],?_⟩;cases p
  ·exact hx b (by simp[h,Op.operands])
  ·exact hx a (by simp[h,Op.operands])
theorem Y.aeq{c a b:Operand}{p:Bool}(h:o.op=.pick c a b)(hc:ev c=.bool p)(hp:p=true):Yields G o ev σ [] [] (ev a):=by
 have:=Y.pick (G:=G) (σ:=σ) h hc;rw[hp]at this;exact this
theorem Y.aer{c a b:Operand}{p:Bool}(h:o.op=.pick c a b)(hc:ev c=.bool p)(hp:p=false):Yields G o ev σ [] [] (ev b):=by
 have:=Y.pick (G:=G) (σ:=σ) h hc;rw[hp]at this;exact this
def inK(k:IntKind)(n:Int):Prop:=k.wrap n=n
section ints
variable {op:BinOp}{T T':TypeId}{x y:Operand}{k:IntKind}{m n:Int}
theorem Y.int(h:o.op=.binOp op T x y T')(hx:ev x=.int k m)(hy:ev y=.int k n){r:Value}{av:AV}(hn:op≠.shl∧op≠.shr)
  (hr:∀w,(match op with|.add|.sub|.mul=>Op.intArith op k m n|.quo|.rem=>Op.intDiv op k m n|.and|.or|.xor|.andNot=>Op.intBits op k m n|_=>Op.intCmp op m n:Sem Value).run G.P w=.ok r w)
  (hav:∀I β,Rep I β av r):Yields G o ev σ [] [] av:=
 .pure λ_ _ I β w ρ _ _ hop=>by
  have h1:=hop x (by simp[h,Op.operands]);rw[hx]at h1;have h1:=de h1
  have h2:=hop y (by simp[h,Op.operands]);rw[hy]at h2;have h2:=de h2
  refine⟨r,?_,hav I β⟩;have e1:(eqGuard op T x y (.int k m) (.int k n)).run G.P w=.ok () w:=by
   unfold eqGuard;cases op<;>rfl
  have e2:(binOp op T (.int k m) (.int k n)).run G.P w=.ok r w:=by
   rw[←hr w];cases op<;>first|exact absurd rfl hn.1|exact absurd rfl hn.2|simp[binOp]
  simp[execOp,h,h1,h2,e1,e2]
theorem Y.lss(h:o.op=.binOp .lss T x y T')(hx:ev x=.int k m)(hy:ev y=.int k n):Yields G o ev σ [] [] (.bool (decide (m<n))):=
 Y.int h hx hy (by decide) (λw=>rfl) (λ_ _=>by simp[Rep,aB])
theorem Y.leq(h:o.op=.binOp .leq T x y T')(hx:ev x=.int k m)(hy:ev y=.int k n):Yields G o ev σ [] [] (.bool (decide (m≤n))):=
 Y.int h hx hy (by decide) (λw=>rfl) (λ_ _=>by simp[Rep,aB])
theorem Y.gtr(h:o.op=.binOp .gtr T x y T')(hx:ev x=.int k m)(hy:ev y=.int k n):Yields G o ev σ [] [] (.bool (decide (n<m))):=
 Y.int h hx hy (by decide) (λw=>rfl) (λ_ _=>by simp[Rep,aB])
theorem Y.geq(h:o.op=.binOp .geq T x y T')(hx:ev x=.int k m)(hy:ev y=.int k n):Yields G o ev σ [] [] (.bool (decide (n≤m))):=
 Y.int h hx hy (by decide) (λw=>rfl) (λ_ _=>by simp[Rep,aB])
theorem Y.eql(h:o.op=.binOp .eql T x y T')(hx:ev x=.int k m)(hy:ev y=.int k n):Yields G o ev σ [] [] (.bool (decide (m=n))):=
 Y.int h hx hy (by decide) (λw=>rfl) (λ_ _=>by simp only[Rep,aB,Value.bool.injEq];rw[Bool.eq_iff_iff];simp)
theorem Y.neq(h:o.op=.binOp .neq T x y T')(hx:ev x=.int k m)(hy:ev y=.int k n):Yields G o ev σ [] [] (.bool (!decide (m=n))):=
 Y.int h hx hy (by decide) (λw=>rfl) (λ_ _=>by simp only[Rep,aB,Value.bool.injEq];rw[Bool.eq_iff_iff];simp)
theorem Y.add(h:o.op=.binOp .add T x y T')(hx:ev x=.int k m)(hy:ev y=.int k n)(hb:inK k (m+n)):Yields G o ev σ [] [] (.int k (m+n)):=
 Y.int h hx hy (by decide) (λw=>rfl) (λ_ _=>by simp only[Rep,aB];rw[hb])
theorem Y.sub(h:o.op=.binOp .sub T x y T')(hx:ev x=.int k m)(hy:ev y=.int k n)(hb:inK k (m-n)):Yields G o ev σ [] [] (.int k (m-n)):=
 Y.int h hx hy (by decide) (λw=>rfl) (λ_ _=>by simp only[Rep,aB];rw[hb])
theorem Y.mul(h:o.op=.binOp .mul T x y T')(hx:ev x=.int k m)(hy:ev y=.int k n)(hb:inK k (m*n)):Yields G o ev σ [] [] (.int k (m*n)):=
 Y.int h hx hy (by decide) (λw=>rfl) (λ_ _=>by simp only[Rep,aB];rw[hb])
theorem Y.addW(h:o.op=.binOp .add T x y T')(hx:ev x=.int k m)(hy:ev y=.int k n):Yields G o ev σ [] [] (.int k (k.wrap (m+n))):=
 Y.int h hx hy (by decide) (λw=>rfl) (λ_ _=>by simp only[Rep,aB])
theorem Y.subW(h:o.op=.binOp .sub T x y T')(hx:ev x=.int k m)(hy:ev y=.int k n):Yields G o ev σ [] [] (.int k (k.wrap (m-n))):=
 Y.int h hx hy (by decide) (λw=>rfl) (λ_ _=>by simp only[Rep,aB])
theorem Y.mulW(h:o.op=.binOp .mul T x y T')(hx:ev x=.int k m)(hy:ev y=.int k n):Yields G o ev σ [] [] (.int k (k.wrap (m*n))):=
 Y.int h hx hy (by decide) (λw=>rfl) (λ_ _=>by simp only[Rep,aB])
theorem Y.rem(h:o.op=.binOp .rem T x y T')(hx:ev x=.int k m)(hy:ev y=.int k n)(hn:n≠0):Yields G o ev σ [] [] (.int k (m.tmod n)):=
 Y.int h hx hy (by decide) (λw=>by simp[Op.intDiv,hn];rfl) (λ_ _=>by simp only[Rep,aB])
theorem Y.quo(h:o.op=.binOp .quo T x y T')(hx:ev x=.int k m)(hy:ev y=.int k n)(hn:n≠0)(hb:inK k (m.tdiv n)):Yields G o ev σ [] [] (.int k (m.tdiv n)):=
 Y.int h hx hy (by decide) (λw=>by simp[Op.intDiv,hn];rfl) (λ_ _=>by simp only[Rep,aB];rw[hb])
def fk(op:BinOp)(k:IntKind)(m n:Int):Int:=
 let a:=BitVec.ofInt k.bits m
 let b:=BitVec.ofInt k.bits n
 match op with
 |.and=>k.wrap (a &&& b).toNat
 |.or=>k.wrap (a ||| b).toNat
 |.xor=>k.wrap (a ^^^ b).toNat
 |.andNot=>k.wrap (a &&& ~~~b).toNat
 |_=>0
theorem Y.and(h:o.op=.binOp .and T x y T')(hx:ev x=.int k m)(hy:ev y=.int k n):Yields G o ev σ [] [] (.int k (fk .and k m n)):=
 Y.int h hx hy (by decide) (λw=>rfl) (λ_ _=>by simp[Rep,aB,fk])
theorem Y.or(h:o.op=.binOp .or T x y T')(hx:ev x=.int k m)(hy:ev y=.int k n):Yields G o ev σ [] [] (.int k (fk .or k m n)):=
 Y.int h hx hy (by decide) (λw=>rfl) (λ_ _=>by simp[Rep,aB,fk])
theorem Y.xor(h:o.op=.binOp .xor T x y T')(hx:ev x=.int k m)(hy:ev y=.int k n):Yields G o ev σ [] [] (.int k (fk .xor k m n)):=
 Y.int h hx hy (by decide) (λw=>rfl) (λ_ _=>by simp[Rep,aB,fk])
theorem Y.andNot(h:o.op=.binOp .andNot T x y T')(hx:ev x=.int k m)(hy:ev y=.int k n):Yields G o ev σ [] [] (.int k (fk .andNot k m n)):=
 Y.int h hx hy (by decide) (λw=>rfl) (λ_ _=>by simp[Rep,aB,fk])
theorem Y.shift{k':IntKind}(hop:op=.shl∨op=.shr)(h:o.op=.binOp op T x y T')(hx:ev x=.int k m)(hy:ev y=.int k' n)(hn:0≤n):
  Yields G o ev σ [] [] (.int k (match op with|.shl=>k.wrap (m*2 ^ min n.toNat k.bits)|_=>m.fdiv (2 ^ min n.toNat k.bits))):=
 .pure λ_ _ I β w ρ _ _ wD=>by
  have h1:=wD x (by simp[h,Op.operands]);rw[hx]at h1;have h1:=de h1
  have h2:=wD y (by simp[h,Op.operands]);rw[hy]at h2;have h2:=de h2
  have hn':¬n<0:=by omega
  rcases hop with rfl|rfl
  ·refine⟨_,by simp[execOp,h,h1,h2,eqGuard,binOp,Op.shift,hn'];rfl,by simp[Rep,aB]⟩
  ·refine⟨_,by simp[execOp,h,h1,h2,eqGuard,binOp,Op.shift,hn'];rfl,by simp[Rep,aB]⟩
end ints
theorem Y.not{T:TypeId}{x:Operand}{b:Bool}(h:o.op=.unOp .not T x)(hx:ev x=.bool b):Yields G o ev σ [] [] (.bool (!b)):=
 .pure λ_ _ I β w ρ _ _ hop=>by
  have h1:=hop x (by simp[h,Op.operands]);rw[hx]at h1;have h1:=nh h1
  exact⟨.bool (!b),by simp[execOp,h,h1,Op.unary],by simp[Rep,aB]⟩
theorem Y.neg{T:TypeId}{x:Operand}{k:IntKind}{n:Int}(h:o.op=.unOp .neg T x)(hx:ev x=.int k n)(hb:inK k (0-n)):Yields G o ev σ [] [] (.int k (0-n)):=
 .pure λ_ _ I β w ρ _ _ hop=>by
  have h1:=hop x (by simp[h,Op.operands]);rw[hx]at h1;have h1:=de h1
  exact⟨.int k (0-n),by simp only[execOp,h,h1,Op.unary,Op.intArith];rw[hb];rfl,by simp[Rep,aB]⟩
theorem Y.convert{T T':TypeId}{x:Operand}{k k':IntKind}{n:Int}(h:o.op=.convert T T' x)(hx:ev x=.int k n)(hT:∃d,G.P.underlying T=some d)(hT':G.P.underlying T'=some (.int k')):Yields G o ev σ [] [] (.int k' (k'.wrap n)):=
 .pure λ_ _ I β w ρ _ _ hop=>by
  have h1:=hop x (by simp[h,Op.operands]);rw[hx]at h1;have h1:=de h1
  obtain⟨d,hd⟩:=hT;have e1:∀w,(underlying T).run G.P w=.ok d w:=λw=>by simp[underlying,program,Sem.run,hd]
  have e2:∀w,(underlying T').run G.P w=.ok (.int k') w:=λw=>by simp[underlying,program,Sem.run,hT']
  refine⟨.int k' (k'.wrap n),?_,by simp[Rep,aB]⟩;simp only[execOp,h,h1];unfold Go.convert;simp only[Sem.run_bind,e1,e2,Result.andThen_ok];cases d<;>rfl
theorem sD{P:Program}(op:BinOp)(t:TypeId)(x y:Operand)(a b:Bool)(w:World):(eqGuard op t x y (.bool a) (.bool b)).run P w=.ok () w:=by
 unfold eqGuard;cases op<;>rfl
theorem wE{P:Program}(T:TypeId)(a b:Bool)(w:World)(hT:P.underlying T=some .bool):(binOp .eql T (.bool a) (.bool b)).run P w=.ok (.bool (a==b)) w:=by
 show(do pure (.bool (←Op.equal T (.bool a) (.bool b))):Sem Value).run P w=_;rw[Sem.run_bind,run_equal_bool w T a b hT];rfl
theorem wF{P:Program}(T:TypeId)(a b:Bool)(w:World)(hT:P.underlying T=some .bool):(binOp .neq T (.bool a) (.bool b)).run P w=.ok (.bool (!(a==b))) w:=by
 show(do pure (.bool (!(←Op.equal T (.bool a) (.bool b)))):Sem Value).run P w=_;rw[Sem.run_bind,run_equal_bool w T a b hT];rfl
theorem Y.beql{T T':TypeId}{x y:Operand}{a b:Bool}(h:o.op=.binOp .eql T x y T')(hx:ev x=.bool a)(hy:ev y=.bool b)(hT:G.P.underlying T=some .bool):Yields G o ev σ [] [] (.bool (a==b)):=
 .pure λ_ _ I β w ρ _ _ hop=>by
  have h1:=hop x (by simp[h,Op.operands]);rw[hx]at h1;have h1:=nh h1
  have h2:=hop y (by simp[h,Op.operands]);rw[hy]at h2;have h2:=nh h2
  exact⟨.bool (a==b),by simp only[execOp,h,h1,h2,Sem.run_bind,sD,wE T a b w hT,Result.andThen_ok,Sem.run_pure],by simp[Rep,aB]⟩
theorem Y.bneq{T T':TypeId}{x y:Operand}{a b:Bool}(h:o.op=.binOp .neq T x y T')(hx:ev x=.bool a)(hy:ev y=.bool b)(hT:G.P.underlying T=some .bool):Yields G o ev σ [] [] (.bool (!(a==b))):=
 .pure λ_ _ I β w ρ _ _ hop=>by
  have h1:=hop x (by simp[h,Op.operands]);rw[hx]at h1;have h1:=nh h1
  have h2:=hop y (by simp[h,Op.operands]);rw[hy]at h2;have h2:=nh h2
  exact⟨.bool (!(a==b)),by simp only[execOp,h,h1,h2,Sem.run_bind,sD,wF T a b w hT,Result.andThen_ok,Sem.run_pure],by simp[Rep,aB]⟩
mutual
def valOf:AV→Value
 |.int k n=>.int k n
 |.bool b=>.bool b
 |.str s=>.string s
 |.agg cs=>.agg (pz cs).toArray
 |_=>undef
def pz:List AV→List Value
 |[]=>[]
 |x::r=>valOf x::pz r
end
mutual
def AV.plain:AV→Bool
 |.int _ _=>true
 |.bool _=>true
 |.str _=>true
 |.agg cs=>zx cs
 |_=>false
def zx:List AV→Bool
 |[]=>true
 |x::r=>x.plain&&zx r
end
mutual
theorem iO{I:Imm}{β:Nat→Value}:∀(a:AV) (v:Value),a.plain=true→Rep I β a v→v=valOf a
 |.int k n,v,_,h=>de h
 |.bool b,v,_,h=>nh h
 |.str s,v,_,h=>ad1 h
 |.agg cs,v,hp,h=>by
  simp only[Rep]at h;obtain⟨vs,rfl,h⟩:=h;simp only[valOf,←zy cs vs.toList (by simpa [AV.plain]using hp) h]
 |.dM,_,hp,_|.undef,_,hp,_|.lst _ _,_,hp,_|.cV _,_,hp,_|.tup _,_,hp,_|.fn _ _,_,hp,_|.bI,_,hp,_|.lC,_,hp,_|.own _,_,hp,_|.ptr _ _,_,hp,_|.bX _,_,hp,_|.cfn _ _,_,hp,_|.sl0,_,hp,_|.hnd _ _,_,hp,_=>by simp[AV.plain]at hp
theorem zy{I:Imm}{β:Nat→Value}:∀(a:List AV) (v:List Value),zx a=true→aW I β a v→v=pz a
 |[],v,_,h=>h
 |x::r,v,hp,h=>by
  simp only[aW]at h;simp only[zx,Bool.and_eq_true]at hp;obtain⟨u,us,rfl,h1,h2⟩:=h;simp only[pz,←iO x u hp.1 h1,←zy r us hp.2 h2]
end
theorem Y.seql{T T':TypeId}{x y:Operand}{a b:AV}{r:Bool}(h:o.op=.binOp .eql T x y T')(hx:ev x=a)(hy:ev y=b)(pa:a.plain=true)(pb:b.plain=true)(he:∀w,(do eqGuard .eql T x y (valOf a) (valOf b);binOp .eql T (valOf a) (valOf b):Sem Value).run G.P w=.ok (.bool r) w):
  Yields G o ev σ [] [] (.bool r):=
 .pure λ_ _ I β w ρ _ _ hop=>by
  have h1:=hop x (by simp[h,Op.operands]);rw[hx]at h1;have h1:=iO a _ pa h1
  have h2:=hop y (by simp[h,Op.operands]);rw[hy]at h2;have h2:=iO b _ pb h2
  refine⟨.bool r,?_,by simp[Rep,aB]⟩;have:=he w;simp only[execOp,h,h1,h2];rw[Sem.run_bind,this];rfl
theorem Y.sneq{T T':TypeId}{x y:Operand}{a b:AV}{r:Bool}(h:o.op=.binOp .neq T x y T')(hx:ev x=a)(hy:ev y=b)(pa:a.plain=true)(pb:b.plain=true)(he:∀w,(do eqGuard .neq T x y (valOf a) (valOf b);binOp .neq T (valOf a) (valOf b):Sem Value).run G.P w=.ok (.bool r) w):
  Yields G o ev σ [] [] (.bool r):=
 .pure λ_ _ I β w ρ _ _ hop=>by
  have h1:=hop x (by simp[h,Op.operands]);rw[hx]at h1;have h1:=iO a _ pa h1
  have h2:=hop y (by simp[h,Op.operands]);rw[hy]at h2;have h2:=iO b _ pb h2
  refine⟨.bool r,?_,by simp[Rep,aB]⟩;have:=he w;simp only[execOp,h,h1,h2];rw[Sem.run_bind,this];rfl
structure dS(P:Program)(T:TypeId)(f off:Nat):Prop where
 run:∀(a:Addr) w,(Instr.fieldAt T (.pointer (some a)) f).run P w=.ok (.pointer (some (a.add off))) w
theorem yc{I:Imm}{b:Nat}:∀(k:Nat) (cs:List AV) (o:Nat),fc I b cs o→fc I b (cs.drop k) (o+k)
 |0,cs,o,h=>by simpa using h
 |k+1,[],o,h=>by simp[fc]
 |k+1,x::r,o,h=>by
  simp only[fc]at h;have:=yc k r (o+1) h.2;simpa [show o+1+k=o+(k+1)from by omega]using this
theorem Y.ami{T:TypeId}{x:Operand}{f off d p:Nat}(h:o.op=.fieldAddr T x f)(hx:ev x=.ptr d p)(hf:dS G.P T f off):Yields G o ev σ [] [] (.ptr d (p+off)):=
 .pure λ_ _ I β w ρ _ _ hop=>by
  have h1:=hop x (by simp[h,Op.operands]);rw[hx]at h1
  simp only[Rep]at h1;obtain⟨b,h1,h2⟩:=h1;refine⟨.pointer (some ⟨b,p+off,none⟩),?_,by simp only[Rep];exact⟨b,h1,rfl⟩⟩;simp[execOp,h,h2,hf.run,dY]
theorem Y.amj{T:TypeId}{x:Operand}{f off:Nat}{cs:List AV}(h:o.op=.fieldAddr T x f)(hx:ev x=.cV cs)(hf:dS G.P T f off):Yields G o ev σ [] [] (.cV (cs.drop off)):=
 .pure λ_ _ I β w ρ _ _ hop=>by
  have h1:=hop x (by simp[h,Op.operands]);rw[hx]at h1
  simp only[Rep,aB]at h1;obtain⟨b,p,h1,h2⟩:=h1;refine⟨.pointer (some ⟨b,p+off,none⟩),?_,by simp only[Rep,aB];exact⟨b,p+off,rfl,yc off cs p h2⟩⟩;simp[execOp,h,h1,hf.run,dY]
theorem tJ{I:Imm}{b:Nat}{w:World}(hg:∀b (o:Nat) v,I b o=some v→w.cell? ⟨b,o,none⟩=some v):∀(cs:List AV) (o:Nat),fc I b cs o→
  ∃vs:List Value,aS I cs vs∧∀j v,vs[j]?=some v→w.cell? ⟨b,o+j,none⟩=some v
 |[],o,_=>⟨[],rfl,λj v h=>by simp at h⟩
 |x::r,o,h=>by
  simp only[fc]at h;obtain⟨⟨u,h1,h2⟩,h3⟩:=h;obtain⟨vs,h4,h5⟩:=tJ hg r (o+1) h3;refine⟨u::vs,⟨u,vs,rfl,h2,h4⟩,λj v hv=>?_⟩;cases j with
  |zero=>simp at hv;subst hv;exact hg _ _ _ h1
  |succ j=>
   have:=h5 j v (by simpa using hv)
   rwa [show o+(j+1)=o+1+j from by omega]
mutual
theorem aB.rep{I:Imm}(β:Nat→Value):∀(a:AV) (v:Value),aB I a v→Rep I β a v
 |.dM,_,_=>by simp[Rep]
 |.undef,_,h=>by simpa only[Rep]using h
 |.int _ _,_,h=>by simpa only[Rep]using h
 |.bool _,_,h=>by simpa only[Rep]using h
 |.str _,_,h=>by simpa only[Rep]using h
 |.lst _ _,_,h=>by simpa only[Rep]using h
 |.cV _,_,h=>by simpa only[Rep]using h
 |.bI,_,h=>by simpa only[Rep]using h
 |.lC,_,h=>by simpa only[Rep]using h
 |.cfn _ _,_,h=>by simpa only[Rep]using h
 |.sl0,_,h=>by simpa only[Rep]using h
 |.mpf _,_,h=>by simpa only[Rep]using h
 |.arr _,_,h=>by simpa only[Rep]using h
 |.agg cs,v,h=>by
  simp only[aB,Rep]at h ⊢;obtain⟨vs,h1,h2⟩:=h;exact⟨vs,h1,aS.rep β cs _ h2⟩
 |.tup cs,v,h=>by
  simp only[aB,Rep]at h ⊢;obtain⟨vs,h1,h2⟩:=h;exact⟨vs,h1,aS.rep β cs _ h2⟩
 |.fn f cs,v,h=>by
  simp only[aB,Rep]at h ⊢;obtain⟨vs,h1,h2⟩:=h;exact⟨vs,h1,aS.rep β cs _ h2⟩
 |.own _,_,h=>by simp[aB]at h
 |.ptr _ _,_,h=>by simp[aB]at h
 |.hnd _ _,_,h=>by simp[aB]at h
 |.bX _,_,h=>by simp[aB]at h
theorem aS.rep{I:Imm}(β:Nat→Value):∀(a:List AV) (v:List Value),aS I a v→aW I β a v
 |[],_,h=>h
 |x::r,v,h=>by
  simp only[aS,aW]at h ⊢;obtain⟨u,us,h1,h2,h3⟩:=h;exact⟨u,us,h1,aB.rep β x u h2,aS.rep β r us h3⟩
end
theorem Y.zz{T T':TypeId}{x:Operand}{n d p:Nat}{ag:Bool}{cs:List AV}(h:o.op=.load T x)(hx:ev x=.ptr d p)(hd:σ.get d=some (.cells T' cs))(hT:TyS G.P T n ag)(h0:(ag||Nat.blt 0 n)=true)(hn:Nat.ble (p+n) cs.length=true):
  Yields G o ev σ [] [d] (lD ag n (cs.drop p)):=
 .pure λσ' cx I β w ρ hR hw hop=>by
  have h1:=hop x (by simp[h,Op.operands]);rw[hx]at h1
  simp only[Rep]at h1;obtain⟨b,h1,h2⟩:=h1;obtain⟨arr,q1,q2,q3,_⟩:=hw.box (by rw[hR d (by simp)];exact hd) h1;obtain⟨v,r1,r2⟩:=pq hT (λe=>by subst e;simpa using h0) (off:=p) q2 q3 (by simpa using hn);exact⟨v,by simp[execOp,h,h2,Instr.loadAt,Instr.sureAddr,r1],r2⟩
theorem Y.aes{T:TypeId}{x:Operand}{n:Nat}{ag:Bool}{cs:List AV}(h:o.op=.load T x)(hx:ev x=.cV cs)(hT:TyS G.P T n ag)(h0:(ag||Nat.blt 0 n)=true)(hn:Nat.ble n cs.length=true):
  Yields G o ev σ [] [] (lD ag n cs):=
 .pure λσ' cx I β w ρ hR hw hop=>by
  have h1:=hop x (by simp[h,Op.operands]);rw[hx]at h1
  simp only[Rep,aB]at h1;obtain⟨b,p,h1,h2⟩:=h1;obtain⟨vs,h3,h4⟩:=tJ hw.good cs p h2;have hl:=dQ _ _ h3;have hn:n≤cs.length:=by simpa using hn
  have hcell:∀j,j<n→∃v,vs[j]?=some v∧w.cell? ⟨b,p+j,none⟩=some v:=λj hj=>by
   have hj':j<vs.length:=by omega
   exact⟨vs[j],List.getElem?_eq_getElem hj',h4 j _ (List.getElem?_eq_getElem hj')⟩
  refine⟨_,by simp only[execOp,h,h1,Instr.loadAt,Instr.sureAddr,Sem.run_bind,Sem.run_pure,Result.andThen_ok,iy hT hcell (λe=>by subst e;simpa using h0)];rfl,?_⟩;have hd:=aS.rep β _ _ h3;cases ag with
  |true=>
   simp only[lD,cond_true,if_true,Rep];exact⟨_,rfl,by simpa using oP n _ _ hd⟩
  |false=>
   simp only[lD,cond_false,Bool.false_eq_true,if_false];cases cs with
   |nil=>simp[Rep]
   |cons x r=>
    simp only[aW]at hd;obtain⟨u,us,e,hd,_⟩:=hd;rw[e];exact hd
structure SlS(P:Program)(T E n:Nat):Prop where
 und:P.underlying T=some (.slice E)
 size:∀w,(sizeOf E).run P w=.ok n w
theorem zA{I:Imm}{b sz:Nat}:∀(xs:List (List AV)) (o i:Nat),(∀e∈xs,e.length=sz)→dg I b xs o→i<xs.length→fc I b (xs.getD i []) (o+i*sz)
 |[],_,_,_,_,h=>by simp at h
 |e::r,o,0,_,h,_=>by simp only[dg]at h;simpa using h.1
 |e::r,o,i+1,hl,h,hi=>by
  simp only[dg]at h;have he:=hl e (by simp);have:=zA r (o+e.length) i (λx hx=>hl x (by simp[hx])) h.2 (by simpa using hi);rw[he]at this;have e2:o+sz+i*sz=o+(i+1)*sz:=by rw[Nat.add_mul,Nat.one_mul];omega
  rw[e2]at this;simpa using this
theorem Y.amk{α:Type}{T E:Nat}{x:Operand}{f:Bool}{rs:List α}{enc:α→List AV}{k}(h:o.op=.call ⟨.builtin .len,#[x],k⟩)(hk:k=#[T])(hx:ev x=.lst f (rs.map enc))(hT:G.P.underlying T=some (.slice E)):Yields G o ev σ [] [] (.int .i64 (rs.length:Int)):=
 .pure λσ' cx I β w ρ hR hw hop=>by
  subst hk;have h1:=hop x (by simp[h,Op.operands,Call.operands]);rw[hx]at h1
  simp only[Rep,aB,List.length_map]at h1;obtain⟨a,c,h1,_⟩:=h1;have e1:∀w,(underlying T).run G.P w=.ok (.slice E) w:=λw=>by simp[underlying,program,Sem.run,hT]
  exact⟨.int .i64 rs.length,by simp[execOp,h,resolve,invoke,builtin,Builtin.len_,h1,e1,goInt],by simp[Rep,aB]⟩
theorem Y.lenN{T E:Nat}{x:Operand}{k}(h:o.op=.call ⟨.builtin .len,#[x],k⟩)(hk:k=#[T])(hx:ev x=.bI)(hT:G.P.underlying T=some (.slice E)):Yields G o ev σ [] [] (.int .i64 0):=
 .pure λσ' cx I β w ρ hR hw hop=>by
  subst hk;have h1:=hop x (by simp[h,Op.operands,Call.operands]);rw[hx]at h1
  simp only[Rep,aB]at h1;have e1:∀w,(underlying T).run G.P w=.ok (.slice E) w:=λw=>by simp[underlying,program,Sem.run,hT]
  exact⟨.int .i64 0,by simp[execOp,h,resolve,invoke,builtin,Builtin.len_,h1,e1,goInt],by simp[Rep,aB]⟩
theorem Y.lenS{T:Nat}{x:Operand}{s:ByteArray}{k}(h:o.op=.call ⟨.builtin .len,#[x],k⟩)(hk:k=#[T])(hx:ev x=.str s)(hT:G.P.underlying T=some .string):Yields G o ev σ [] [] (.int .i64 (s.size:Int)):=
 .pure λσ' cx I β w ρ hR hw hop=>by
  subst hk;have h1:=hop x (by simp[h,Op.operands,Call.operands]);rw[hx]at h1;have h1:=ad1 h1
  have e1:∀w,(underlying T).run G.P w=.ok .string w:=λw=>by simp[underlying,program,Sem.run,hT]
  exact⟨.int .i64 s.size,by simp[execOp,h,resolve,invoke,builtin,Builtin.len_,h1,e1,goInt],by simp[Rep,aB]⟩
theorem zC{G:Gl}{cx:Cx}{I:Imm}{β:Nat→Value}{σ:Sto}{w:World}(hw:aX G cx I β σ w){d:Nat}{T sz k:Nat}{fz:Bool}{xs:List (List AV)}(hd:σ.get d=some (.slice T sz xs k fz)){v:Value}(hv:Rep I β (.own d) v):
  ∃a c,v=.slice a xs.length c∧xs.length≤c∧c≤maxLen:=by
 simp only[Rep]at hv;obtain⟨rfl,hs⟩:=hv;have:=hw.bB d _ hd;simp only[aj]at this;rcases this with h1|⟨h1,rfl,_⟩|⟨b,cap,arr,h1,h2,h3,_⟩
 ·rw[h1]at hs;simp[fP]at hs
 ·exact⟨none,0,h1,by simp,by simp[maxLen]⟩
 ·exact⟨_,cap,h1,h2,h3⟩
theorem Y.aml{α:Type}{T E:Nat}{x:Operand}{d T' sz n:Nat}{fz:Bool}{rs:List α}{enc:α→List AV}{k}(h:o.op=.call ⟨.builtin .len,#[x],k⟩)(hk:k=#[T])(hx:ev x=.own d)(hd:σ.get d=some (.slice T' sz (rs.map enc) n fz))(hT:G.P.underlying T=some (.slice E)):Yields G o ev σ [] [d] (.int .i64 (rs.length:Int)):=
 .pure λσ' cx I β w ρ hR hw hop=>by
  subst hk;have h1:=hop x (by simp[h,Op.operands,Call.operands]);rw[hx]at h1
  obtain⟨a,c,h1,_⟩:=zC hw (by rw[hR d (by simp)];exact hd) h1;have e1:∀w,(underlying T).run G.P w=.ok (.slice E) w:=λw=>by simp[underlying,program,Sem.run,hT]
  exact⟨.int .i64 rs.length,by simp[execOp,h,resolve,invoke,builtin,Builtin.len_,h1,e1,goInt],by simp[Rep,aB]⟩
theorem uN{I:Imm}{β:Nat→Value}:∀{xs:List AV} {vs:List Value} {j:Nat} {a:AV},aW I β xs vs→xs[j]?=some a→∃v,vs[j]?=some v∧Rep I β a v
 |[],_,_,_,_,h=>by simp at h
 |x::r,vs,0,a,h,hj=>by
  simp only[aW]at h;obtain⟨u,us,rfl,h1,_⟩:=h;simp at hj;subst hj
  exact⟨u,by simp,h1⟩
 |x::r,vs,j+1,a,h,hj=>by
  simp only[aW]at h;obtain⟨u,us,rfl,_,h2⟩:=h;obtain⟨v,h3,h4⟩:=uN h2 (by simpa using hj);exact⟨v,by simpa using h3,h4⟩
theorem Y.extract{x:Operand}{j:Nat}{vs:List AV}{a:AV}(h:o.op=.extract x j)(hx:ev x=.tup vs)(hj:vs[j]?=some a):Yields G o ev σ [] [] a:=
 .pure λσ' cx I β w ρ hR hw hop=>by
  have h1:=hop x (by simp[h,Op.operands]);rw[hx]at h1
  simp only[Rep]at h1;obtain⟨us,h1,h2⟩:=h1;obtain⟨v,h3,h4⟩:=uN h2 hj;have h3:us[j]?=some v:=by simpa using h3
  exact⟨v,by simp[execOp,h,h1,Instr.extract,h3],h4⟩
theorem Y.afM{x:Operand}{d p:Nat}(h:o.op=.nilCheck x)(hx:ev x=.ptr d p):Yields G o ev σ [] [] (.ptr d p):=
 .pure λσ' cx I β w ρ hR hw hop=>by
  have h1:=hop x (by simp[h,Op.operands]);rw[hx]at h1
  have h2:=h1;simp only[Rep]at h1;obtain⟨b,_,h1⟩:=h1;exact⟨ρ x,by simp[execOp,h,h1],h2⟩
theorem Y.afN{x:Operand}{cs:List AV}(h:o.op=.nilCheck x)(hx:ev x=.cV cs):Yields G o ev σ [] [] (.cV cs):=
 .pure λσ' cx I β w ρ hR hw hop=>by
  have h1:=hop x (by simp[h,Op.operands]);rw[hx]at h1
  have h2:=h1;simp only[Rep,aB]at h1;obtain⟨b,p,h1,_⟩:=h1;exact⟨ρ x,by simp[execOp,h,h1],h2⟩
end ops
end
section
structure Kept(w w':World)(b:Nat):Prop where
 block:∀k,k≠b→k<w.heap.size→w'.heap[k]?=w.heap[k]?
 size:w.heap.size≤w'.heap.size
 tape:w'.tape=w.tape
 os:w'.os=w.os
 output:w'.output=w.output
 drawn:w.drawn≤w'.drawn
theorem bF{w:World}{b:Nat}{x:Obj}(h:w.heap[b]?=some x):b<w.heap.size:=(Array.getElem?_eq_some_iff.1 h).1
theorem aj.keep{cx:Cx}{I I':Imm}{β β':Nat→Value}{w w':World}{x:Nat}{o:br}{b:Nat}(h:aj cx I β w x o)(hk:Kept w w' b)(hx:β' x=β x)(amm:b∉bY (β x))(hle:aQ I I')(hI:∀b',b'≠b→∀o,I' b' o=I b' o)(hh:HLe β β'):
  aj cx I' β' w' x o:=by
 have hne:blk (β x)≠some b:=λe=>amm (cR e);cases o with
 |bun els=>
  simp only[aj,hx]at h ⊢;rcases h with q|⟨hs,q1,q2⟩
  ·exact .inl q
  ·refine .inr ⟨hs,q1,q2.go hle λb' hb'=>?_⟩;have hb:b'≠b:=λe=>amm (by rw[q1,←e];exact hb');exact⟨λhlt=>hk.block b' hb hlt,hI b' hb,id⟩
 |slm T xs t=>
  simp only[aj,hx]at h ⊢;rcases h with q|⟨b',cap,arr,q1,q2,q3,q4,q5,q6,q7,q8,q9,q10,q11⟩
  ·exact .inl q
  ·have hb:b'≠b:=λe=>hne (by rw[q1,e];rfl);have e1:β' t=β t:=by
    rcases hh t with e1|e1
    ·exact absurd e1 q9
    ·exact e1
   exact .inr ⟨b',cap,arr,q1,q2,q3,(hk.block b' hb (bF q4)).trans q4,q5,ef hle _ _ q6,q7,by rw[e1];exact q8,by rw[e1];exact q9,λo=>(hI b' hb o).trans (q10 o),q11⟩
 |vec T xs=>
  simp only[aj,hx]at h ⊢;rcases h with q|⟨b',arr,q1,q2,q3,q4,q5⟩
  ·exact .inl q
  ·have hb:b'≠b:=λe=>hne (by rw[q1,e];rfl);exact .inr ⟨b',arr,q1,(hk.block b' hb (bF q2)).trans q2,q3,λo=>(hI b' hb o).trans (q4 o),q5⟩
 |ei es clock aL seen=>
  simp only[aj,hx]at h ⊢;rcases h with q|⟨r,bm,q1,q2,q3,q4,q5,q6,q7⟩
  ·exact .inl q
  ·have hb:r≠b:=λe=>hne (by rw[q1,e];rfl);exact .inr ⟨r,bm,q1,(hk.block r hb (bF q2)).trans q2,hle _ _ _ q3,eo hle _ _ q4,q5,λo=>(hI r hb o).trans (q6 o),q7⟩
 |b8 T e n hole=>
  simp only[aj,hx]at h ⊢;rcases h with q|⟨b',cap,arr,hs,q1,q2,q3,q4,q5,q6,q7,q8,q9,q10⟩
  ·exact .inl q
  ·have hb:b'≠b:=λe=>hne (by rw[q1,e];rfl);have e1:β' e=β e:=by
    rcases hh e with e1|e1
    ·rw[e1]at q6;cases q6
    ·exact e1
   exact .inr ⟨b',cap,arr,hs,q1,q2,q3,(hk.block b' hb (bF q4)).trans q4,q5,by rw[e1];exact q6,q7,q8.hle hh,λo=>(hI b' hb o).trans (q9 o),q10⟩
 |gh K E e keys hole fx=>
  simp only[aj,hx]at h ⊢;rcases h with q|⟨r,es,clock,hs,as,q1,q2,q3,q4,q5,q6,q7,q8⟩
  ·exact .inl q
  ·have hb:r≠b:=λe=>hne (by rw[q1,e];rfl);have e1:β' e=β e:=by
    rcases hh e with e1|e1
    ·rw[e1]at q3;cases q3
    ·exact e1
   exact .inr ⟨r,es,clock,hs,as,q1,(hk.block r hb (bF q2)).trans q2,by rw[e1];exact q3,q4.hle hh,q5.mono hle,λo=>(hI r hb o).trans (q6 o),q7,q8⟩
 |cells T cs=>
  simp only[aj,hx]at h ⊢;rcases h with q|⟨b',arr,q1,q2,q3,q4,q5⟩
  ·exact .inl q
  ·have hb:b'≠b:=λe=>hne (by rw[q1,e];rfl);exact .inr ⟨b',arr,q1,(hk.block b' hb (bF q2)).trans q2,iN hle hh _ _ q3,λo=>(hI b' hb o).trans (q4 o),q5⟩
 |slice T sz xs k fz=>
  simp only[aj,hx]at h ⊢;rcases h with q|q|⟨b',cap,arr,q1,q2,q3,q4,q5,q6,q7,q8,q9,q10,q11⟩
  ·exact .inl q
  ·exact .inr (.inl q)
  ·have hb:b'≠b:=λe=>hne (by rw[q1,e];rfl);exact .inr (.inr ⟨b',cap,arr,q1,q2,q3,(hk.block b' hb (bF q4)).trans q4,q5,ef hle _ _ q6,q7,q8,λhz o ho=>(hI b' hb o).trans (q9 hz o ho),λo ho=>(hI b' hb o).trans (q10 o ho),q11⟩)
 |win T sz xs=>
  simp only[aj,hx]at h ⊢;rcases h with q|q|⟨b',o',cap,arr,q1,q2,q3,q4,q5,q6,q7,q8,q9⟩
  ·exact .inl q
  ·exact .inr (.inl q)
  ·have hb:b'≠b:=λe=>hne (by rw[q1,e];rfl);exact .inr (.inr ⟨b',o',cap,arr,q1,q2,q3,(hk.block b' hb (bF q4)).trans q4,q5,jy hle _ _ _ q6,q7,λhz o ho=>(hI b' hb o).trans (q8 hz o ho),q9⟩)
 |map K E aL=>
  simp only[aj,hx]at h ⊢;rcases h with q|⟨r,es,clock,q1,q2,q3,q4,q5⟩
  ·exact .inl q
  ·have hb:r≠b:=λe=>hne (by rw[q1,e];rfl);exact .inr ⟨r,es,clock,q1,(hk.block r hb (bF q2)).trans q2,eo hle _ _ q3,λo=>(hI r hb o).trans (q4 o),q5⟩
 |jA K E aL=>
  simp only[aj,hx]at h ⊢;rcases h with q|⟨r,es,clock,q1,q2,q3,q4⟩
  ·exact .inl q
  ·exact .inr ⟨r,es,clock,q1,hle _ _ _ q2,eo hle _ _ q3,q4⟩
 |dI es clock K E aL=>
  simp only[aj,hx]at h ⊢;rcases h with q|⟨r,q1,q2,q3,q4,q5⟩
  ·exact .inl q
  ·have hb:r≠b:=λe=>hne (by rw[q1,e];rfl);exact .inr ⟨r,q1,(hk.block r hb (bF q2)).trans q2,eo hle _ _ q3,λo=>(hI r hb o).trans (q4 o),q5⟩
 |iter dm since c0 seen=>
  simp only[aj,hx]at h ⊢;rcases h with q|⟨r,bm,q1,q2,q3,q4,q5⟩
  ·exact .inl q
  ·have hb:r≠b:=λe=>hne (by rw[q1,e];rfl);have q2':blk (β' dm)=some bm:=by
    rcases hh dm with e|e
    ·rw[e]at q2;simp[blk]at q2
    ·rw[e];exact q2
   exact .inr ⟨r,bm,q1,q2',(hk.block r hb (bF q3)).trans q3,λo=>(hI r hb o).trans (q4 o),q5⟩
 |hdr dm n=>
  simp only[aj,hx]at h ⊢;obtain⟨q1,a,c,q2⟩:=h;rcases hh dm with e|e
  ·rw[e]at q2;cases q2
  ·exact⟨q1,a,c,by rw[e];exact q2⟩
theorem ia.at{cx:Cx}{I:Imm}{w:World}{x:Rw}{v:Value}(h:ia cx I w x v){b:Nat}(hb:blk v=some b):b<w.heap.size∧Place cx b:=by
 cases x with
 |sl T sz xs=>
  rcases h with⟨h,_⟩|⟨b',cap,arr,h1,_,_,h4,_,_,_,_,h9⟩
  ·rw[h]at hb;simp[blk]at hb
  ·rw[h1]at hb;simp[blk]at hb;subst hb;exact⟨bF h4,h9⟩
 |mp K E aL=>
  obtain⟨r,es,clock,h1,h2,_,_,h5,_⟩:=h;rw[h1]at hb;simp[blk]at hb;subst hb;exact⟨bF h2,h5⟩
theorem eD.at{cx:Cx}{I:Imm}{w:World}:∀{els:List Rw} {vs:List Value},eD cx I w els vs→∀{b:Nat},b∈vs.filterMap blk→b<w.heap.size∧Place cx b
 |[],_,h,b,hb=>by rw[show _=[]from h]at hb;cases hb
 |x::r,_,h,b,hb=>by
  obtain⟨u,us,rfl,h1,_,h3⟩:=h;obtain⟨v,hv,e⟩:=List.mem_filterMap.1 hb;rcases List.mem_cons.1 hv with rfl|hv
  ·exact h1.at e
  ·exact h3.at (List.mem_filterMap.2 ⟨v,hv,e⟩)
section turn
variable {G:Gl}{cx:Cx}{I:Imm}{β:Nat→Value}{σ:Sto}{w:World}
theorem aX.turn(h:aX G cx I β σ w){σ2:Sto}{I':Imm}{β':Nat→Value}{w':World}{b d:Nat}(hk:Kept w w' b)(hp:Place cx b)(hσ:∀x,x≠d→σ2.get x=σ.get x)
  (hfree:∀x,x≠d→(σ.get x).isSome→b∉bY (β x)) (hle:aQ I I') (hI:∀b',b'≠b→∀o,I' b' o=I b' o) (uO:∀(o:Nat) v,I' b o=some v→w'.cell? ⟨b,o,none⟩=some v)
  (hnm:I' b none=none) (hβ:∀x,x≠d→β' x=β x) (hβd:d∉G.ids∨β' d=β d) (hh:HLe β β') (hbd:blk (β' d)=some b∨bY (β' d)=[]) (ho:∀o,σ2.get d=some o→aj cx I' β' w' d o):aX G cx I' β' σ2 w' where
 good:=λb' o v hv=>by
  by_cases hb:b'=b
  ·subst hb;exact uO o v hv
  ·rw[hI b' hb]at hv;have h1:=h.good b' o v hv;have hlt:b'<w.heap.size:=by
    have:=World.block_lt_of_cell? w _ h1;exact this
   rw[World.cell?_of_block (w:=w) (hk.block b' hb hlt)];exact h1
 dO:=λb' v hv=>by
  by_cases hb:b'=b
  ·subst hb;rw[hnm]at hv;cases hv
  ·rw[hI b' hb]at hv;obtain⟨es,clock,h1,h2⟩:=h.dO b' v hv;exact⟨es,clock,by rw[hk.block b' hb (bF h1)];exact h1,h2⟩
 eX:=h.eX.trans hle
 fU:=λb' hb hn o=>by
  have:b'≠b:=λe=>by
   subst e;rcases hp with q|q
   ·omega
   ·exact hn q
  rw[hI b' this];exact h.fU b' hb hn o
 frame:=λb' hb hn=>by
  have:b'≠b:=λe=>by
   subst e;rcases hp with q|q
   ·omega
   ·exact hn q
  rw[hk.block b' this (by have:=h.size;omega)];exact h.frame b' hb hn
 size:=Nat.le_trans h.size hk.size
 tape:=hk.tape.trans h.tape
 os:=hk.os.trans h.os
 output:=hk.output.trans h.output
 drawn:=Nat.le_trans h.drawn hk.drawn
 bB:=λx o hx=>by
  by_cases hxd:x=d
  ·subst hxd;exact ho o hx
  ·rw[hσ x hxd]at hx;exact(h.bB x o hx).keep hk (hβ x hxd) (hfree x hxd (by rw[hx];rfl)) hle hI hh
 bQ:=λx y hx hy hne b'=>by
  by_cases hxd:x=d
  ·subst hxd;rw[hσ y (Ne.symm hne)]at hy;rw[hβ y (Ne.symm hne)];intro e e';rcases hbd with q|q
   ·have:=sx q e;subst this;exact hfree y (Ne.symm hne) hy e'
   ·rw[q]at e;cases e
  ·rw[hσ x hxd]at hx;rw[hβ x hxd];by_cases hyd:y=d
   ·subst hyd;intro e e';rcases hbd with q|q
    ·have:=sx q e';subst this;exact hfree x hxd hx e
    ·rw[q]at e';cases e'
   ·rw[hσ y hyd]at hy;rw[hβ y hyd];exact h.bQ x y hx hy hne b'
 keep:=λx hx=>by
  by_cases hxd:x=d
  ·subst hxd;rcases hβd with q|q
   ·exact absurd hx q
   ·rw[q];exact h.keep x hx
  ·rw[hβ x hxd];exact h.keep x hx
theorem aX.acf(h:aX G cx I β σ w){x:Nat}{o:br}(hx:σ.get x=some o){b:Nat}(hbB:b∈bY (β x)):b<w.heap.size∧Place cx b:=by
 have ho:=h.bB x o hx;by_cases hbu:∃els,o=.bun els
 ·obtain⟨els,rfl⟩:=hbu;simp only[aj]at ho;rcases ho with q|⟨hs,q1,q2⟩
  ·rw[q]at hbB;cases hbB
  ·rw[q1]at hbB;exact q2.at hbB
 have hb:blk (β x)=some b:=by
  cases hv:β x with
  |tuple vs=>
   exfalso;cases o<;>simp only[aj,hv]at ho<;>first|exact hbu ⟨_,rfl⟩|(simp at ho)
  |_=>rw[hv]at hbB;simpa [bY]using hbB
 clear hbB;cases o with
 |bun els=>exact absurd ⟨els,rfl⟩ hbu
 |slm T xs t=>
  simp only[aj]at ho;rcases ho with q|⟨b',cap,arr,q1,_,_,q4,_,_,_,_,_,_,q11⟩
  ·rw[q]at hb;simp[blk]at hb
  ·rw[q1]at hb;simp[blk]at hb;subst hb;exact⟨bF q4,q11⟩
 |vec T xs=>
  simp only[aj]at ho;rcases ho with q|⟨b',arr,q1,q2,_,_,q5⟩
  ·rw[q]at hb;simp[blk]at hb
  ·rw[q1]at hb;simp[blk]at hb;subst hb;exact⟨bF q2,q5⟩
 |ei es clock aL seen=>
  simp only[aj]at ho;rcases ho with q|⟨r,bm,q1,q2,_,_,_,_,q7⟩
  ·rw[q]at hb;simp[blk]at hb
  ·rw[q1]at hb;simp[blk]at hb;subst hb;exact⟨bF q2,q7⟩
 |b8 T e n hole=>
  simp only[aj]at ho;rcases ho with q|⟨b',cap,arr,hs,q1,_,_,q4,_,_,_,_,_,q10⟩
  ·rw[q]at hb;simp[blk]at hb
  ·rw[q1]at hb;simp[blk]at hb;subst hb;exact⟨bF q4,q10⟩
 |gh K E e keys hole fx=>
  simp only[aj]at ho;rcases ho with q|⟨r,es,clock,hs,as,q1,q2,_,_,_,_,q7,_⟩
  ·rw[q]at hb;simp[blk]at hb
  ·rw[q1]at hb;simp[blk]at hb;subst hb;exact⟨bF q2,q7⟩
 |cells T cs=>
  simp only[aj]at ho;rcases ho with q|⟨b',arr,q1,q2,_,_,q5⟩
  ·rw[q]at hb;simp[blk]at hb
  ·rw[q1]at hb;simp[blk]at hb;subst hb;exact⟨bF q2,q5⟩
 |slice T sz xs k fz=>
  simp only[aj]at ho;rcases ho with q|⟨q,_⟩|⟨b',cap,arr,q1,_,_,q4,_,_,_,_,_,_,q11⟩
  ·rw[q]at hb;simp[blk]at hb
  ·rw[q]at hb;simp[blk]at hb
  ·rw[q1]at hb;simp[blk]at hb;subst hb;exact⟨bF q4,q11⟩
 |win T sz xs=>
  simp only[aj]at ho;rcases ho with q|⟨q,_⟩|⟨b',o',cap,arr,q1,_,_,q4,_,_,_,_,q9⟩
  ·rw[q]at hb;simp[blk]at hb
  ·rw[q]at hb;simp[blk]at hb
  ·rw[q1]at hb;simp[blk]at hb;subst hb;exact⟨bF q4,q9⟩
 |map K E aL=>
  simp only[aj]at ho;rcases ho with q|⟨r,es,clock,q1,q2,_,_,q5,_⟩
  ·rw[q]at hb;simp[blk]at hb
  ·rw[q1]at hb;simp[blk]at hb;subst hb;exact⟨bF q2,q5⟩
 |jA K E aL=>
  simp only[aj]at ho;rcases ho with q|⟨r,es,clock,q1,q2,_,q5,_⟩
  ·rw[q]at hb;simp[blk]at hb
  ·rw[q1]at hb;simp[blk]at hb;subst hb
   obtain⟨_,_,h1,_⟩:=h.dO _ _ q2;exact⟨bF h1,q5⟩
 |dI es clock K E aL=>
  simp only[aj]at ho;rcases ho with q|⟨r,q1,q2,_,_,q5,_⟩
  ·rw[q]at hb;simp[blk]at hb
  ·rw[q1]at hb;simp[blk]at hb;subst hb;exact⟨bF q2,q5⟩
 |iter dm since c0 seen=>
  simp only[aj]at ho;rcases ho with q|⟨r,bm,q1,_,q3,_,q5⟩
  ·rw[q]at hb;simp[blk]at hb
  ·rw[q1]at hb;simp[blk]at hb;subst hb;exact⟨bF q3,q5⟩
 |hdr dm n=>
  simp only[aj]at ho;rw[ho.1]at hb;simp[blk]at hb
theorem aX.lE(h:aX G cx I β σ w){x:Nat}{o:br}(hx:σ.get x=some o){b:Nat}(hb:b∈bY (β x)):b<w.heap.size:=(h.acf hx hb).1
theorem aX.ct(h:aX G cx I β σ w){b:Nat}(hb:w.heap.size≤b)(o:Option Nat):I b o=none:=by
 cases hv:I b o with
 |none=>rfl
 |some v=>
  cases o with
  |none=>
   obtain⟨es,clock,h1,_⟩:=h.dO b v hv;have:=bF h1;omega
  |some o=>
   have:=World.block_lt_of_cell? w _ (h.good b o v hv);simp at this;omega
theorem aX.afO(h:aX G cx I β σ w){b:Nat}{o:Obj}(hb:w.heap[b]?=some o)(hn:∀es c,o≠.map es c):I b none=none:=by
 cases hv:I b none with
 |none=>rfl
 |some v=>
  obtain⟨es,clock,h1,_⟩:=h.dO b v hv;rw[hb]at h1;cases h1
  exact absurd rfl (hn es clock)
theorem aX.gN(h:aX G cx I β σ w){b:Nat}{arr:Array Value}{T:TypeId}{fz:Nat×Nat}(hb:w.heap[b]?=some (.cells arr T fz)):I b none=none:=h.afO hb λ_ _=>by simp
theorem Kept.alloc(w:World)(o:Obj):Kept w (w.alloc o) w.heap.size:=
 ⟨λk _ hlt=>heap_alloc_old w o k hlt,by simp,rfl,rfl,rfl,Nat.le_refl _⟩
theorem Kept.setRow(w:World)(g:Nat)(cs:Array Value):Kept w (w.setRow g cs) g:=
 ⟨λk hk _=>setRow_other w g k cs hk,by simp,rfl,rfl,rfl,Nat.le_refl _⟩
theorem Kept.drew{w w':World}{b:Nat}(h:Kept w.drew w' b):Kept w w' b:=⟨h.block,h.size,h.tape,h.os,h.output,Nat.le_trans (Nat.le_succ _) h.drawn⟩
def en(β:Nat→Value)(d:Nat)(v:Value):Nat→Value:=λx=>if x=d then v else β x
theorem bO(β:Nat→Value)(d:Nat)(v:Value):en β d v d=v:=by simp[en]
theorem cc(β:Nat→Value){d x:Nat}(v:Value)(h:x≠d):en β d v x=β x:=by simp[en,h]
theorem HLe.upd{β:Nat→Value}{d:Nat}{v:Value}(h:β d=.nilFunc):HLe β (en β d v):=λx=>by
 by_cases hx:x=d
 ·subst hx;exact .inl h
 ·exact .inr (cc β v hx)
theorem aX.real(h:aX G cx I β σ w){d:Nat}(hd:d∉G.ids)(hn:β d=.nilFunc){o:Obj}{v:Value}(hv:blk v=some w.heap.size)(ho:∀ob,σ.get d=some ob→aj cx I (en β d v) (w.alloc o) d ob):
  aX G cx I (en β d v) σ (w.alloc o):=
 h.turn (Kept.alloc w o) (.inl h.size) (λ_ _=>rfl) (λx hx hs e=>by
   obtain⟨ob,hs⟩:=Option.isSome_iff_exists.1 hs;exact absurd (h.lE hs e) (by omega)) (aQ.refl I) (λ_ _ _=>rfl) (λo' v' hv'=>by rw[h.ct (Nat.le_refl _)]at hv';cases hv') (h.ct (Nat.le_refl _) none)
  (λx hx=>cc β v hx) (.inl hd) (HLe.upd hn) (.inl (by rw[bO];exact hv)) ho
theorem aX.lay(h:aX G cx I β σ w)(vs:Array Value)(E:TypeId):∃I',aQ I I'∧(∀(o:Nat) v,vs[o]?=some v→I' w.heap.size o=some v)∧aX G cx I' β σ (w.alloc (.cells vs E)):=by
  let I':Imm:=I.on λb o=>if b=w.heap.size then vs[o]? else I b o
  have hle:aQ I I':=λb o v hv=>by
    cases o with
    |none=>exact hv
    |some o=>
    show(if b=w.heap.size then vs[o]? else I b o)=some v;split
    · rename_i e;subst e;rw[h.ct (Nat.le_refl _)]at hv;cases hv
    · exact hv
  refine⟨I',hle,λo v hv=>by show(if _ then _ else _)=_;rw[if_pos rfl];exact hv,?_⟩;have hfr:∃d,σ.get d=none:=by
    have:∀(l:Sto),∃n,∀m,n≤m→l.get m=none:=by
      intro l;induction l with
      |nil=>exact⟨0,λ_ _=>rfl⟩
      |cons x r ih=>
        obtain⟨n,hn⟩:=ih;obtain⟨k,v⟩:=x;exact⟨max n (k+1),λm hm=>by rw[Sto.aK,if_neg (by omega)];exact hn m (by omega)⟩
    obtain⟨n,hn⟩:=this σ;exact⟨n,hn n (Nat.le_refl n)⟩
  obtain⟨d,hd⟩:=hfr
  refine{good:=λb' o v hv=>?_,dO:=λb' v hv=>?_,eX:=h.eX.trans hle,fU:=λb' hb hn o=>?_,frame:=λb' hb hn=>?_,size:=Nat.le_trans h.size (by simp),tape:=h.tape,os:=h.os,output:=h.output,drawn:=h.drawn,
         bB:=λx o hx=>?_,bQ:=h.bQ,keep:=h.keep}
  · change (if b'=w.heap.size then vs[o]? else I b' o)=some v at hv
    split at hv
    · rename_i e;subst e
      rw[World.cell?_alloc_new];exact hv
    · have h1:=h.good b' o v hv
      have hlt:=World.block_lt_of_cell? w _ h1;rw[World.cell?_alloc_lt w _ _ hlt];exact h1
  · obtain⟨es,clock,h1,h2⟩:=h.dO b' v hv
    exact⟨es,clock,by rw[heap_alloc_old w _ b' (bF h1)];exact h1,h2⟩
  · have:b'≠w.heap.size:=by have:=h.size;omega
    cases o with
    |none=>exact h.fU b' hb hn none
    |some o=>
    show(if b'=w.heap.size then vs[o]? else I b' o)=_;rw[if_neg this];exact h.fU b' hb hn o
  · rw[heap_alloc_old w _ b' (by have:=h.size;omega)]
    exact h.frame b' hb hn
  · refine(h.bB x o hx).keep (b:=w.heap.size) (Kept.alloc w _) rfl (λe=>absurd (h.lE hx e) (by omega)) hle (λb' hb o=>?_) (HLe.refl β)
    cases o with
    |none=>rfl
    |some o=>
    show(if b'=w.heap.size then vs[o]? else I b' o)=_;rw[if_neg hb]
end turn
def fB:AV→List AV
 |.agg cs=>cs
 |a=>[a]
def Hk.one:Hk→Bool
 |.row _=>false
 |_=>true
def AV.one:AV→Bool
 |.int _ _=>true|.bool _=>true|.str _=>true|.lst _ _=>true|.cV _=>true|.fn _ _=>true|.bI=>true|.lC=>true|.own _=>true|.ptr _ _=>true|.bX _=>true|.cfn _ _=>true|.sl0=>true|.hnd k _=>k.one|.mpf _=>true
 |_=>false
theorem AV.yM{I:Imm}{β:Nat→Value}{a:AV}{v:Value}(h:a.one=true)(hr:Rep I β a v):v.oneCell'=true∧v.cells=#[v]:=by
 cases a<;>simp only[AV.one]at h<;>first|cases h|skip
 all_goals simp only[Rep,aB]at hr
 all_goals first
  |(subst hr;exact⟨rfl,rfl⟩)
  |(obtain⟨_,_,rfl,_⟩:=hr;exact⟨rfl,rfl⟩)
  |(obtain⟨_,_,_,rfl,_⟩:=hr;exact⟨rfl,rfl⟩)
  |(obtain⟨_,rfl,_⟩:=hr;exact⟨rfl,rfl⟩)
  |(rename_i k d;cases k<;>simp only[Hk.one]at h<;>first|cases h|skip
    all_goals simp only[Hk.rep]at hr
    all_goals first|(obtain⟨b,hb,rfl⟩:=hr;exact⟨rfl,rfl⟩)|(obtain⟨_,_,_,_,_,_,rfl⟩:=hr;exact⟨rfl,rfl⟩))
  |(obtain⟨_,_,rfl⟩:=hr;exact⟨rfl,rfl⟩)
  |(obtain⟨rfl,h2⟩:=hr
    rename_i d;cases hb:β d<;>rw[hb]at h2<;>first|(simp[fP]at h2;done)|(simp[jS]at h2;done)|exact⟨rfl,rfl⟩)
def AV.flat:AV→Bool
 |.agg cs=>cs.all AV.one
 |a=>a.one
theorem yN{I:Imm}{β:Nat→Value}:∀(cs:List AV) (vs:List Value),cs.all AV.one=true→aW I β cs vs→∀v∈vs,v.oneCell'=true
 |[],vs,_,h=>by simp only[aW]at h;subst h;simp
 |x::r,vs,hc,h=>by
  simp only[aW]at h;simp only[List.all_cons,Bool.and_eq_true]at hc;obtain⟨u,us,rfl,h1,h2⟩:=h;intro v hv;rcases List.mem_cons.1 hv with rfl|hv
  ·exact(AV.yM hc.1 h1).1
  ·exact yN r us hc.2 h2 v hv
theorem AV.qK{I:Imm}{β:Nat→Value}{a:AV}{v:Value}(h:a.flat=true)(hr:Rep I β a v):aW I β (fB a) v.cells.toList∧∀u∈v.cells.toList,u.oneCell'=true:=by
 by_cases ha:∃cs,a=.agg cs
 ·obtain⟨cs,rfl⟩:=ha;simp only[Rep]at hr;obtain⟨vs,rfl,hr⟩:=hr;simp only[AV.flat]at h;exact⟨hr,yN cs _ h hr⟩
 ·have h1:a.one=true:=by cases a<;>first|exact h|exact absurd ⟨_,rfl⟩ ha
  have h2:fB a=[a]:=by cases a<;>first|rfl|exact absurd ⟨_,rfl⟩ ha
  obtain⟨h3,h4⟩:=AV.yM h1 hr;rw[h2,h4];exact⟨⟨v,[],rfl,hr,rfl⟩,by simpa using h3⟩
section ops
variable {G:Gl}{o:Oper}{ev:Operand→AV}{σ:Sto}
theorem Y.alloc{T d:Nat}{zs:List Value}(h:o.op=.alloc T)(hz:∀w,∃z,(zeroValue T).run G.P w=.ok z w∧z.cells=zs.toArray)(hi:G.ids.contains d=false):
  Yields G o ev ((d,.cells T (lq zs))::σ) [d] [d] (.ptr d 0):=by
 intro σ' cx I β w ρ hR hw hm hop;obtain⟨z,hz1,hz2⟩:=hz w;have hrun:(execOp ρ o).run G.P w=.ok (.value (.pointer (some ⟨w.heap.size,0,none⟩))) (w.alloc (.cells zs.toArray T)):=by
  simp[execOp,h,Instr.alloc,hz1,newVar,newRow,hz2]
 rw[hrun];have hβ:=hm d (by simp);refine⟨I,en β d (.pointer (some ⟨w.heap.size,0,none⟩)),by simp only[Rep];exact⟨w.heap.size,by rw[bO];rfl,rfl⟩,?_,aQ.refl I,λx hx=>cc β _ (λe=>hx (by simp[e]))⟩;refine hw.real (by simpa using hi) hβ rfl λob hob=>?_;rw[hR d (by simp),Sto.aK,if_pos rfl]at hob;injection hob with hob
 subst hob;simp only[aj,bO];exact .inr ⟨w.heap.size,zs.toArray,rfl,heap_alloc_new w _,by simpa using s4 I _ zs,λo=>hw.ct (Nat.le_refl _) o,.inl hw.size⟩
theorem Y.box{T d:Nat}{x:Operand}{a:AV}{cs:List AV}(h:o.op=.box T x)(hx:ev x=a)(hf:a.flat=true)(hc:fB a=cs)(hr:a.refs (Nat.beq d)=false)(hi:G.ids.contains d=false):
  Yields G o ev ((d,.cells T cs)::σ) [d] [d] (.ptr d 0):=by
 intro σ' cx I β w ρ hR hw hm hop;have hx1:=hop x (by simp[h,Op.operands]);rw[hx]at hx1;have hrun:(execOp ρ o).run G.P w=.ok (.value (.pointer (some ⟨w.heap.size,0,none⟩))) (w.alloc (.cells (ρ x).cells T)):=by
  simp[execOp,h,Instr.box,newVar,newRow]
 rw[hrun];have hβ:=hm d (by simp);refine⟨I,en β d (.pointer (some ⟨w.heap.size,0,none⟩)),by simp only[Rep];exact⟨w.heap.size,by rw[bO];rfl,rfl⟩,?_,aQ.refl I,λx hx=>cc β _ (λe=>hx (by simp[e]))⟩;refine hw.real (by simpa using hi) hβ rfl λob hob=>?_;rw[hR d (by simp),Sto.aK,if_pos rfl]at hob;injection hob with hob
 subst hob;simp only[aj,bO];refine .inr ⟨w.heap.size,(ρ x).cells,rfl,heap_alloc_new w _,?_,λo=>hw.ct (Nat.le_refl _) o,.inl hw.size⟩;have:=(AV.qK hf hx1).1;rw[hc]at this;exact iN (aQ.refl I) (HLe.upd hβ) _ _ this
structure iz(P:Program)(T:TypeId)(zs:List Value)(pl:List (Nat×Nat)):Prop where
 run:∀(parts:Array (Nat×Value)) (cells:Array Value) w,Instr.fill (λi=>pl[i]?) zs.toArray parts.toList=some cells→(Instr.build T parts).run P w=.ok (.agg cells) w
theorem lF{P:Program}{T:TypeId}{fs:Array Field}{zs:List Value}{pl:List (Nat×Nat)}(hz:∀w,(zeroValue T).run P w=.ok (.agg zs.toArray) w)(hu:P.underlying T=some (.struct fs))
  (hp:∀w,(fs.mapM λf=>do pure (f.offset,←sizeOf f.type):Sem (Array (Nat×Nat))).run P w=.ok pl.toArray w):iz P T zs pl where
 run:=λparts cells w h=>by
  have h':Instr.fill (pl.toArray[·]?) zs.toArray parts.toList=some cells:=by
   rw[←h];congr 1;funext i;simp
  unfold Instr.build;simp only[Sem.run_bind,hz,Result.andThen_ok,run_underlying hu,hp,Value.cells];simp only[h'];rfl
def cG{α:Type}(L:List α)(off:Nat)(cs:List α):List α:=L.take off++cs++L.drop (off+cs.length)
def s6(pl:List (Nat×Nat))(cells:List AV):List (Nat×AV)→Option (List AV)
 |[]=>some cells
 |(i,a)::rest=>match pl[i]? with
  |none=>none
  |some (off,size)=>bif Nat.beq (fB a).length size&&Nat.ble (off+(fB a).length) cells.length&&a.flat then s6 pl (cG cells off (fB a)) rest else none
theorem abh(cs:List Value):∀(k off:Nat) (L:Array Value),off+k+cs.length≤L.size→((cs.zipIdx k).foldl (λ(acc:Array Value) (x:Value×Nat)=>acc.setIfInBounds (off+x.2) x.1) L).toList=L.toList.take (off+k)++cs++L.toList.drop (off+k+cs.length):=by
 induction cs with
 |nil=>intro k off L h;simp
 |cons c r ih=>
  intro k off L h;simp only[List.zipIdx_cons,List.foldl_cons];have:=ih (k+1) off (L.setIfInBounds (off+k) c) (by simp at h ⊢;omega);rw[this];have e:=list_seg_step L.toList (off+k) c r (by simp at h ⊢;omega);simpa [Array.toList_setIfInBounds,Nat.add_assoc]using e
theorem fI{I:Imm}{β:Nat→Value}:∀(xs ys:List AV) (us vs:List Value),aW I β xs us→aW I β ys vs→aW I β (xs++ys) (us++vs)
 |[],ys,us,vs,h,h'=>by simp only[aW]at h;subst h;simpa using h'
 |x::r,ys,us,vs,h,h'=>by
  simp only[aW]at h;obtain⟨u,us',rfl,h1,h2⟩:=h;simp only[List.cons_append,aW];exact⟨u,us'++vs,rfl,h1,fI r ys us' vs h2 h'⟩
theorem acg{I:Imm}{β:Nat→Value}(pl:List (Nat×Nat)):∀(parts:List (Nat×AV)) (vals:List (Nat×Value)) (cells:List AV) (L:Array Value) (out:List AV),aW I β cells L.toList→
  (parts.length=vals.length∧∀(j:Nat) (p:Nat×AV) (q:Nat×Value),parts[j]?=some p→vals[j]?=some q→p.1=q.1∧Rep I β p.2 q.2)→s6 pl cells parts=some out→∃r,Instr.fill (λi=>pl[i]?) L vals=some r∧aW I β out r.toList
 |[],vals,cells,L,out,h,hv,hf=>by
  have:vals=[]:=List.eq_nil_of_length_eq_zero hv.1.symm;subst this;simp only[s6,Option.some.injEq]at hf;subst hf;exact⟨L,rfl,h⟩
 |(i,a)::rest,vals,cells,L,out,h,hv,hf=>by
  cases vals with
  |nil=>simp at hv
  |cons q vs=>
   obtain⟨i',v⟩:=q;have h0:=hv.2 0 _ _ rfl rfl;simp only at h0;obtain⟨rfl,fD⟩:=h0;simp only[s6]at hf;cases hp:pl[i]? with
   |none=>rw[hp]at hf;cases hf
   |some os=>
    obtain⟨off,size⟩:=os;rw[hp]at hf;simp only at hf;cases hc:(Nat.beq (fB a).length size&&Nat.ble (off+(fB a).length) cells.length&&a.flat)with
    |false=>rw[hc]at hf;simp at hf
    |true=>
     rw[hc]at hf;simp only[cond_true]at hf;simp only[Bool.and_eq_true,Nat.beq_eq,Nat.ble_eq]at hc;obtain⟨⟨c1,c2⟩,c3⟩:=hc;obtain⟨d1,d2⟩:=AV.qK c3 fD;have dl:=gd _ _ d1;have ll:=gd _ _ h;simp only[Array.length_toList]at dl ll;simp only[Instr.fill,hp];rw[if_neg (show ¬((decide (v.cells.size≠size)||decide (off+v.cells.size>L.size))=true)from by simp;omega)];refine acg pl rest vs _ _ out ?_ ⟨by simpa using hv.1,λj p q hj hq=>hv.2 (j+1) p q (by simpa using hj) (by simpa using hq)⟩ hf;have e:=abh v.cells.toList 0 off L (by simp;omega)
     have e2:(v.cells.zipIdx.foldl (λcs (x:Value×Nat)=>cs.setIfInBounds (off+x.2) x.1) L)=((v.cells.toList.zipIdx 0).foldl (λ(acc:Array Value) (x:Value×Nat)=>acc.setIfInBounds (off+x.2) x.1) L):=by
      rw[←Array.foldl_toList,Array.toList_zipIdx]
     rw[e2,e];simp only[Nat.add_zero,cG];refine fI _ _ _ _ (fI _ _ _ _ (oP _ _ _ h) d1) ?_;have:=oO (off+(fB a).length) _ _ h;have hl2:v.cells.toList.length=(fB a).length:=by simpa using dl
     rw[hl2];exact this
theorem Y.build{T:TypeId}{parts:Array (Nat×Operand)}{zs:List Value}{pl:List (Nat×Nat)}{cs:List AV}(h:o.op=.build T parts)(hT:iz G.P T zs pl)
  (hf:s6 pl (lq zs) (parts.toList.map λp=>(p.1,ev p.2))=some cs):Yields G o ev σ [] [] (.agg cs):=
 .pure λσ' cx I β w ρ hR hw hop=>by
  have h1:∀p∈parts.toList,Rep I β (ev p.2) (ρ p.2):=λp hp=>hop p.2 (by simp only[h,Op.operands];simpa using ⟨p.1,by simpa using hp⟩)
  obtain⟨r,h2,h3⟩:=acg pl (parts.toList.map λp=>(p.1,ev p.2)) (parts.toList.map λp=>(p.1,ρ p.2)) (lq zs) zs.toArray cs (by simpa using s4 I β zs)
   ⟨by simp,λj p q hj hq=>by
    simp only[List.getElem?_map]at hj hq;cases hx:parts.toList[j]? with
    |none=>rw[hx]at hj;cases hj
    |some y=>
     rw[hx]at hj hq;simp only[Option.map_some,Option.some.injEq]at hj hq;subst hj hq;exact⟨rfl,h1 y (List.mem_of_getElem? hx)⟩⟩ hf
  refine⟨.agg r,?_,by simp only[Rep];exact⟨r,rfl,h3⟩⟩;have:(Instr.build T (parts.map λ(i,x)=>(i,ρ x))).run G.P w=.ok (.agg r) w:=hT.run _ r w (by simpa using h2);simp[execOp,h,this]
structure iP(P:Program)(T E sz:Nat)(zs:List Value):Prop where
 und:P.underlying T=some (.slice E)
 size:∀w,(sizeOf E).run P w=.ok sz w
 zero:∀w,∃z,(zeroValue E).run P w=.ok z w∧z.cells=zs.toArray
 zsz:zs.length=sz
theorem jm{sz:Nat}:∀(xs:List (List AV)),(∀e∈xs,e.length=sz)→xs.flatten.length=xs.length*sz
 |[],_=>by simp
 |e::r,h=>by
  simp only[List.flatten_cons,List.length_append,List.length_cons,h e (by simp),jm r (λx hx=>h x (by simp[hx]))];rw[Nat.add_mul];omega
def mS(sz:Nat):Nat→List (Nat×AV)→Option (List (List AV))
 |_,[]=>some []
 |k,(i,a)::r=>bif Nat.beq i k&&Nat.beq (fB a).length sz&&a.flat then(mS sz (k+1) r).map (fB a::·)else none
theorem qz{I:Imm}{β:Nat→Value}(sz:Nat):∀(parts:List (Nat×AV)) (vals:List (Nat×Value)) (k:Nat) (L:Array Value) (out:List (List AV)),
  (parts.length=vals.length∧∀(j:Nat) (p:Nat×AV) (q:Nat×Value),parts[j]?=some p→vals[j]?=some q→p.1=q.1∧Rep I β p.2 q.2)→mS sz k parts=some out→(k+parts.length)*sz≤L.size→
  ∃r us,Instr.fill (λi=>some (i*sz,sz)) L vals=some r∧r.size=L.size∧r.toList=L.toList.take (k*sz)++us++L.toList.drop ((k+parts.length)*sz)∧aW I β out.flatten us∧(∀e∈out,e.length=sz)∧out.length=parts.length
 |[],vals,k,L,out,hv,hf,_=>by
  have:vals=[]:=List.eq_nil_of_length_eq_zero hv.1.symm;subst this;simp only[mS,Option.some.injEq]at hf;subst hf;exact⟨L,[],rfl,rfl,by simp,by simp[aW],by simp,rfl⟩
 |(i,a)::rest,vals,k,L,out,hv,hf,hsz=>by
  cases vals with
  |nil=>simp at hv
  |cons q vs=>
   obtain⟨i',v⟩:=q;have h0:=hv.2 0 _ _ rfl rfl;simp only at h0;obtain⟨rfl,fD⟩:=h0;simp only[mS]at hf;cases hc:(Nat.beq i k&&Nat.beq (fB a).length sz&&a.flat)with
   |false=>rw[hc]at hf;simp at hf
   |true=>
    rw[hc]at hf;simp only[cond_true,Option.map_eq_some_iff]at hf;obtain⟨out',hf,rfl⟩:=hf;simp only[Bool.and_eq_true,Nat.beq_eq]at hc;obtain⟨⟨rfl,c1⟩,c3⟩:=hc;obtain⟨d1,d2⟩:=AV.qK c3 fD;have dl:=gd _ _ d1;simp only[Array.length_toList]at dl;have hfit:i*sz+sz≤L.size:=by
     have:(i+1)*sz≤(i+((i,a)::rest).length)*sz:=Nat.mul_le_mul_right _ (by simp);rw[Nat.add_mul,Nat.one_mul]at this;omega
    have e:=abh v.cells.toList 0 (i*sz) L (by simp;omega)
    have e2:(v.cells.zipIdx.foldl (λcs (x:Value×Nat)=>cs.setIfInBounds (i*sz+x.2) x.1) L)=((v.cells.toList.zipIdx 0).foldl (λ(acc:Array Value) (x:Value×Nat)=>acc.setIfInBounds (i*sz+x.2) x.1) L):=by
     rw[←Array.foldl_toList,Array.toList_zipIdx]
    simp only[Instr.fill];rw[if_neg (show ¬((decide (v.cells.size≠sz)||decide (i*sz+v.cells.size>L.size))=true)from by simp;omega)];rw[e2];generalize hL':((v.cells.toList.zipIdx 0).foldl (λ(acc:Array Value) (x:Value×Nat)=>acc.setIfInBounds (i*sz+x.2) x.1) L)=L' at e;have hsL:L'.size=L.size:=by
     rw[←Array.length_toList,e];simp;omega
    obtain⟨r,us,r1,r2,r3,r4,r5,r6⟩:=qz sz rest vs (i+1) L' out' ⟨by simpa using hv.1,λj p q hj hq=>hv.2 (j+1) p q (by simpa using hj) (by simpa using hq)⟩ hf (by rw[hsL];simp at hsz;rw[show i+1+rest.length=i+(rest.length+1)from by omega];exact hsz);refine⟨r,v.cells.toList++us,r1,r2.trans hsL,?_,?_,?_,by simp[r6]⟩
    ·rw[r3,e];have hmul:(i+1)*sz=i*sz+sz:=by rw[Nat.add_mul,Nat.one_mul]
     have l1:(L.toList.take (i*sz+0)).length=i*sz:=by simp;omega
     have l2:(L.toList.take (i*sz+0)++v.cells.toList).length=(i+1)*sz:=by rw[List.length_append,l1,hmul];simp;omega
     rw[List.take_append_of_le_length (by rw[l2];exact Nat.le_refl _),←l2,List.take_length];have hd:List.drop ((i+1+rest.length)*sz) (L.toList.take (i*sz+0)++v.cells.toList++L.toList.drop (i*sz+0+v.cells.toList.length))=L.toList.drop ((i+((i,a)::rest).length)*sz):=by
      rw[List.drop_append,l2,List.drop_drop];have:(i+1)*sz≤(i+1+rest.length)*sz:=Nat.mul_le_mul_right _ (by omega);rw[List.drop_of_length_le (by rw[l2];exact this),List.nil_append];congr 1;simp only[Array.length_toList,List.length_cons];rw[show i+(rest.length+1)=i+1+rest.length from by omega];omega
     rw[hd];simp[List.append_assoc]
    ·simp only[List.flatten_cons];exact fI _ _ _ _ d1 r4
    ·intro e he;rcases List.mem_cons.1 he with rfl|he
     ·exact c1
     ·exact r5 e he
theorem Y.buildSlice{T E sz len:Nat}{parts:Array (Nat×Operand)}{zs:List Value}{xs:List (List AV)}(h:o.op=.buildSlice T len parts)(hT:iP G.P T E sz zs)(hl:parts.size=len)(hs:len*sz≤65536∧len≤65536)
  (hf:mS sz 0 (parts.toList.map λp=>(p.1,ev p.2))=some xs) (hc:eO xs.flatten=true):Yields G o ev σ [] [] (.lst true xs):=by
 intro σ' cx I β w ρ hR hw hm hop;have h1:∀p∈parts.toList,Rep I β (ev p.2) (ρ p.2):=λp hp=>hop p.2 (by simp only[h,Op.operands];simpa using ⟨p.1,by simpa using hp⟩);obtain⟨z,hz1,hz2⟩:=hT.zero w
 let L:Array Value:=(Array.range (len*sz)).map ((if len*sz=0 then #[]else z.cells)[·%(if len*sz=0 then #[]else z.cells:Array Value).size]!)
 have hLs:L.size=len*sz:=by simp[L]
 obtain⟨r,us,r1,r2,r3,r4,r5,r6⟩:=qz (I:=I) (β:=β) sz (parts.toList.map λp=>(p.1,ev p.2)) (parts.toList.map λp=>(p.1,ρ p.2)) 0 L xs
  ⟨by simp,λj p q hj hq=>by
   simp only[List.getElem?_map]at hj hq;cases hx:parts.toList[j]? with
   |none=>rw[hx]at hj;cases hj
   |some y=>
    rw[hx]at hj hq;simp only[Option.map_some,Option.some.injEq]at hj hq;subst hj hq;exact⟨rfl,h1 y (List.mem_of_getElem? hx)⟩⟩ hf (by simp[hLs,hl])
 have hru:r.toList=us:=by
  rw[r3];have e0:L.toList.drop ((0+(parts.toList.map λp=>(p.1,ev p.2)).length)*sz)=[]:=List.drop_of_length_le (by simp[hLs,hl]);rw[e0];simp
 have hxl:xs.length=len:=by rw[r6];simp[hl]
 have hrun:(execOp ρ o).run G.P w=.ok (.value (.slice (some ⟨w.heap.size,0,none⟩) len len)) (w.alloc (.cells r E)):=by
  have hlim:¬(len*sz>2 ^ 24):=by have:(2:Nat) ^ 24=16777216:=by decide
                                 omega
  have j9:Instr.fill (λi=>some (i*sz,sz)) L (parts.map λ(i,x)=>(i,ρ x)).toList=some r:=by simpa using r1
  simp only[execOp,h,Instr.buildSlice,Sem.run_bind,run_underlying hT.und,hT.size,Result.andThen_ok,hlim,if_false];by_cases h0:len*sz=0
  ·have hL0:L=(Array.range (len*sz)).map ((#[]:Array Value)[·%(#[]:Array Value).size]!):=by simp only[L,h0,if_true]
   rw[hL0]at j9;simp only[h0,if_true,Sem.run_bind,Sem.run_pure,Result.andThen_ok]at j9 ⊢;simp only[j9];simp[newRow]
  ·have hL0:L=(Array.range (len*sz)).map (z.cells[·%z.cells.size]!):=by simp only[L,h0,if_false]
   rw[hL0]at j9;simp only[h0,if_false,Sem.run_bind,hz1,Sem.run_pure,Result.andThen_ok];simp only[j9];simp[newRow]
 rw[hrun];obtain⟨I',hle,hcells,hw'⟩:=hw.lay r E;refine⟨I',β,?_,hw',hle,λ_ _=>rfl⟩;simp only[Rep,aB];refine⟨_,len,by rw[hxl],by omega,?_,λ_=>hxl.symm,.inr ⟨w.heap.size,0,rfl,?_⟩⟩
 ·simp only[maxLen];omega
 ·have:=aW.closed _ _ hc r4;rw[←hru]at this;exact l9 xs 0 _ (ef hle _ _ this) λj v hv=>by rw[Nat.zero_add];exact hcells j v (by simpa using hv)
end ops
end
section
def Sto.minus(ids:List Nat):Sto→Sto
 |[]=>[]
 |(d,o)::r=>bif ids.contains d then Sto.minus ids r else(d,o)::Sto.minus ids r
theorem Sto.dn(ids:List Nat):∀(σ:Sto) (d:Nat),(Sto.minus ids σ).get d=if d∈ids then none else σ.get d
 |[],d=>by simp[Sto.minus,Sto.get]
 |(k,o)::r,d=>by
  simp only[Sto.minus];cases hk:ids.contains k with
  |true=>
   simp only[cond_true,Sto.dn ids r d,Sto.aK];split
   ·rfl
   ·rename_i hd;rw[if_neg];intro e;subst e;simp at hk;exact hd hk
  |false=>
   simp only[cond_false,Sto.aK,Sto.dn ids r d];split
   ·rename_i e;subst e;rw[if_neg (by simpa using hk)]
   ·rfl
theorem Sto.ji:∀(a b:Sto) (d:Nat),Sto.get (a++b) d=match a.get d with|some o=>some o|none=>b.get d
 |[],b,d=>by simp[Sto.get]
 |(k,o)::r,b,d=>by
  simp only[List.cons_append,Sto.aK];split
  ·rfl
  ·exact Sto.ji r b d
theorem Sto.zD:∀{σ:Sto} {d:Nat},d∈σ.ids→(σ.get d).isSome
 |[],d,h=>by simp[Sto.ids]at h
 |(k,o)::r,d,h=>by
  rw[Sto.aK];split
  ·rfl
  ·rename_i hk;simp only[Sto.ids,List.map_cons,List.mem_cons]at h;rcases h with h|h
   ·exact absurd h.symm hk
   ·exact Sto.zD (σ:=r) h
def kQ(β:Nat→Value)(σ:Sto):List Nat:=σ.flatMap λp=>bY (β p.1)
theorem sE{β:Nat→Value}{σ:Sto}{b:Nat}:b∈kQ β σ↔∃p∈σ,b∈bY (β p.1):=by simp[kQ,List.mem_flatMap]
section after
variable {G:Gl}{cx:Cx}{I:Imm}{β:Nat→Value}{σ:Sto}{w:World}
theorem aX.placeOf(h:aX G cx I β σ w){x:Nat}{o:br}(hx:σ.get x=some o){b:Nat}(hb:b∈bY (β x)):Place cx b:=(h.acf hx hb).2
def gO(I:Imm)(β:Nat→Value)(σc:Sto)(w:World):Cx:={B:=w.heap.size,w0:=w,I0:=I,bl:=kQ β σc,β0:=β}
theorem aj.place{cx cx':Cx}{I:Imm}{β:Nat→Value}{w:World}{d:Nat}{o:br}(hpB:∀b∈bY (β d),Place cx b→Place cx' b)(h:aj cx I β w d o):aj cx' I β w d o:=by
 have hp:∀b,blk (β d)=some b→Place cx b→Place cx' b:=λb hb=>hpB b (cR hb);cases o with
 |bun els=>
  simp only[aj]at h ⊢;rcases h with q|⟨hs,q1,q2⟩
  ·exact .inl q
  ·exact .inr ⟨hs,q1,q2.go (aQ.refl I) λb' hb'=>⟨λ_=>rfl,λ_=>rfl,hpB b' (by rw[q1];exact hb')⟩⟩
 |slm T xs t=>
  simp only[aj]at h ⊢;rcases h with q|⟨b',cap,arr,q1,q2,q3,q4,q5,q6,q7,q8,q9,q10,q11⟩
  ·exact .inl q
  ·exact .inr ⟨b',cap,arr,q1,q2,q3,q4,q5,q6,q7,q8,q9,q10,hp b' (by rw[q1];rfl) q11⟩
 |vec T xs=>
  simp only[aj]at h ⊢;rcases h with q|⟨b',arr,q1,q2,q3,q4,q5⟩
  ·exact .inl q
  ·exact .inr ⟨b',arr,q1,q2,q3,q4,hp b' (by rw[q1];rfl) q5⟩
 |ei es clock aL seen=>
  simp only[aj]at h ⊢;rcases h with q|⟨r,bm,q1,q2,q3,q4,q5,q6,q7⟩
  ·exact .inl q
  ·exact .inr ⟨r,bm,q1,q2,q3,q4,q5,q6,hp r (by rw[q1];rfl) q7⟩
 |b8 T e n hole=>
  simp only[aj]at h ⊢;rcases h with q|⟨b',cap,arr,hs,q1,q2,q3,q4,q5,q6,q7,q8,q9,q10⟩
  ·exact .inl q
  ·exact .inr ⟨b',cap,arr,hs,q1,q2,q3,q4,q5,q6,q7,q8,q9,hp b' (by rw[q1];rfl) q10⟩
 |gh K E e keys hole fx=>
  simp only[aj]at h ⊢;rcases h with q|⟨r,es,clock,hs,as,q1,q2,q3,q4,q5,q6,q7,q8⟩
  ·exact .inl q
  ·exact .inr ⟨r,es,clock,hs,as,q1,q2,q3,q4,q5,q6,hp r (by rw[q1];rfl) q7,q8⟩
 |cells T cs=>
  simp only[aj]at h ⊢;rcases h with q|⟨b',arr,q1,q2,q3,q4,q5⟩
  ·exact .inl q
  ·exact .inr ⟨b',arr,q1,q2,q3,q4,hp b' (by rw[q1];rfl) q5⟩
 |slice T sz xs k fz=>
  simp only[aj]at h ⊢;rcases h with q|q|⟨b',cap,arr,q1,q2,q3,q4,q5,q6,q7,q8,q9,q10,q11⟩
  ·exact .inl q
  ·exact .inr (.inl q)
  ·exact .inr (.inr ⟨b',cap,arr,q1,q2,q3,q4,q5,q6,q7,q8,q9,q10,hp b' (by rw[q1];rfl) q11⟩)
 |win T sz xs=>
  simp only[aj]at h ⊢;rcases h with q|q|⟨b',o',cap,arr,q1,q2,q3,q4,q5,q6,q7,q8,q9⟩
  ·exact .inl q
  ·exact .inr (.inl q)
  ·exact .inr (.inr ⟨b',o',cap,arr,q1,q2,q3,q4,q5,q6,q7,q8,hp b' (by rw[q1];rfl) q9⟩)
 |map K E aL=>
  simp only[aj]at h ⊢;rcases h with q|⟨r,es,clock,q1,q2,q3,q4,q5,q6⟩
  ·exact .inl q
  ·exact .inr ⟨r,es,clock,q1,q2,q3,q4,hp r (by rw[q1];rfl) q5,q6⟩
 |jA K E aL=>
  simp only[aj]at h ⊢;rcases h with q|⟨r,es,clock,q1,q2,q3,q5,q6⟩
  ·exact .inl q
  ·exact .inr ⟨r,es,clock,q1,q2,q3,hp r (by rw[q1];rfl) q5,q6⟩
 |dI es clock K E aL=>
  simp only[aj]at h ⊢;rcases h with q|⟨r,q1,q2,q3,q4,q5,q6⟩
  ·exact .inl q
  ·exact .inr ⟨r,q1,q2,q3,q4,hp r (by rw[q1];rfl) q5,q6⟩
 |iter dm since c0 seen=>
  simp only[aj]at h ⊢;rcases h with q|⟨r,bm,q1,q2,q3,q4,q5⟩
  ·exact .inl q
  ·exact .inr ⟨r,bm,q1,q2,q3,q4,hp r (by rw[q1];rfl) q5⟩
 |hdr dm n=>exact h
theorem aX.wA(h:aX G cx I β σ w){P:Program}{σc:Sto}(hs:∀p∈σc,σ.get p.1=some p.2):aX ⟨P,0,σc.ids⟩ (gO I β σc w) I β σc w:=by
  have hsub:∀d o,σc.get d=some o→σ.get d=some o:=λd o hd=>by
    obtain⟨p,p1,p2,p3⟩:=jo σc d o hd;rw[←p2,←p3];exact hs p p1
  have h1:=h.sub hsub
  exact{good:=h1.good,dO:=h1.dO,eX:=aQ.refl I,fU:=λ_ _ _ _=>rfl,frame:=λ_ _ _=>rfl,size:=Nat.le_refl _,tape:=rfl,os:=rfl,output:=rfl,drawn:=Nat.le_refl _,
        bB:=λd o hd=>(h1.bB d o hd).place λb hb _=>.inr (by
            obtain⟨p,p1,p2,_⟩:=jo σc d o hd;exact sE.2 ⟨p,p1,by rw[p2];exact hb⟩),
        bQ:=h1.bQ,keep:=λ_ _=>rfl}
theorem aX.after(h:aX G cx I β σ w){P:Program}{σc:Sto}(hs:∀p∈σc,σ.get p.1=some p.2){I':Imm}{β':Nat→Value}{σ2:Sto}{w':World}
    (h':aX ⟨P,0,σc.ids⟩ (gO I β σc w) I' β' σ2 w') (news:List Nat) (hn:∀d∈news,d∉G.ids∧σ.get d=none) (hcl:(σ.minus σc.ids).clean news.contains=true)
    (hok:σ2.clean (λd=>!(σc.ids++news).contains d)=true) :
    aX G cx I' (λd=>if d∈news then β' d else β d) (σ2++σ.minus σc.ids) w'∧aQ I I'∧(∀(r:AV) v,r.refs (λd=>!(σc.ids++news).contains d)=false→Rep I' β' r v→Rep I' (λd=>if d∈news then β' d else β d) r v):=by
  have hsub:∀d o,σc.get d=some o→σ.get d=some o:=λd o hd=>by
    obtain⟨p,p1,p2,p3⟩:=jo σc d o hd;rw[←p2,←p3];exact hs p p1
  have hle:aQ I I':=h'.eX
  have hm:∀d,(λd=>!(σc.ids++news).contains d) d=false→(λd=>if d∈news then β' d else β d) d=β' d:=λd hd=>by
    have hd:d∈σc.ids∨d∈news:=by
      have:(σc.ids++news).contains d=true:=by rw[←Bool.not_eq_false'];exact hd
      exact List.mem_append.1 (List.contains_iff_mem.1 this)
    show(if d∈news then β' d else β d)=β' d;split
    · rfl
    · rename_i hn
      rcases hd with hd|hd
      · exact(h'.keep d hd).symm
      · exact absurd hd hn
  have hblk:∀b,b∈kQ β σc→Place cx b:=λb hb=>by
    obtain⟨p,p1,p2⟩:=sE.1 hb;exact h.placeOf (hs p p1) p2
  have hpl:∀b,Place (gO I β σc w) b→Place cx b:=λb hb=>by
    rcases hb with hb|hb
    · exact .inl (Nat.le_trans h.size hb)
    · exact hblk b hb
  have hnot:∀b,b<cx.B→b∉cx.bl→b<(gO I β σc w).B∧b∉(gO I β σc w).bl:=λb h1 h2=>
    ⟨Nat.lt_of_lt_of_le h1 h.size,λhb=>by
      rcases hblk b hb with q|q
      · omega
      · exact h2 q⟩
  have rest:∀x o,(σ.minus σc.ids).get x=some o→x∉σc.ids∧σ.get x=some o:=λx o hx=>by
    rw[Sto.dn]at hx;split at hx
    · cases hx
    · exact⟨by assumption,hx⟩
  have ad2:∀x o,(σ.minus σc.ids).get x=some o→∀b∈bY (β x),b<(gO I β σc w).B∧b∉(gO I β σc w).bl:=λx o hx b hb=>by
    obtain⟨h1,h2⟩:=rest x o hx;refine⟨h.lE h2 hb,λhbl=>?_⟩;obtain⟨p,p1,p2⟩:=sE.1 hbl;have hpx:p.1≠x:=λe=>h1 (by rw[←e];exact List.mem_map.2 ⟨p,p1,rfl⟩);exact h.bQ p.1 x (by rw[hs p p1];rfl) (by rw[h2];rfl) hpx b p2 hb
  have xL:∀x o,(σ.minus σc.ids).get x=some o→(if x∈news then β' x else β x)=β x:=λx o hx=>by
    have:x∉news:=λhxn=>by
      have:=(hn x hxn).2;rw[(rest x o hx).2]at this;cases this
    rw[if_neg this]
  refine⟨{good:=h'.good,dO:=h'.dO,eX:=h.eX.trans hle,fU:=λb h1 h2 o=>?_,frame:=λb h1 h2=>?_,size:=Nat.le_trans h.size h'.size,tape:=h'.tape.trans h.tape,os:=h'.os.trans h.os,output:=h'.output.trans h.output,drawn:=Nat.le_trans h.drawn h'.drawn,
          bB:=λx o hx=>?_,bQ:=λx y hx hy hne b=>?_,keep:=λx hx=>?_},hle,λr v hr hv=>kP hm r v hr hv⟩
  · obtain⟨h3,h4⟩:=hnot b h1 h2
    exact(h'.fU b h3 h4 o).trans (h.fU b h1 h2 o)
  · obtain⟨h3,h4⟩:=hnot b h1 h2
    exact(h'.frame b h3 h4).trans (h.frame b h1 h2)
  · rw[Sto.ji]at hx
    cases h2:σ2.get x with
    |some o'=>
      rw[h2]at hx;cases hx;obtain⟨c1,c2⟩:=Sto.cm hok x o h2;exact((h'.bB x o h2).place (λb _=>hpl b)).beta hm c1 c2
    |none=>
      rw[h2]at hx;simp only at hx;obtain⟨r1,r2⟩:=rest x o hx;obtain⟨c1,c2⟩:=Sto.cm hcl x o hx;have ho:=h.bB x o r2
      have hb0:∀d,news.contains d=false→(λd=>if d∈news then β' d else β d) d=β d:=λd hd=>by
        have:d∉news:=by simpa using hd
        show(if d∈news then β' d else β d)=β d;rw[if_neg this]
      refine aj.beta hb0 c1 c2 ?_
      have amo:∀b∈bY (β x),w'.heap[b]?=w.heap[b]?∧∀o,I' b o=I b o:=λb hb=>by
        obtain⟨q1,q2⟩:=ad2 x o hx b hb;exact⟨h'.frame b q1 q2,λo=>h'.fU b q1 q2 o⟩
      have hob:∀b,blk (β x)=some b→w'.heap[b]?=w.heap[b]?∧∀o,I' b o=I b o:=λb hb=>amo b (cR hb);cases o with
      |bun els=>
        simp only[aj]at ho ⊢;rcases ho with q|⟨hs,q1,q2⟩
        · exact .inl q
        · refine .inr ⟨hs,q1,q2.go hle λb' hb'=>?_⟩
          obtain⟨s1,s2⟩:=amo b' (by rw[q1];exact hb');exact⟨λ_=>s1,s2,id⟩
      |slm T xs t=>
        simp only[aj]at ho ⊢;rcases ho with q|⟨b',cap,arr,q1,q2,q3,q4,q5,q6,q7,q8,q9,q10,q11⟩
        · exact .inl q
        · obtain⟨s1,s2⟩:=hob b' (by rw[q1];rfl)
          exact .inr ⟨b',cap,arr,q1,q2,q3,s1.trans q4,q5,ef hle _ _ q6,q7,q8,q9,λo=>(s2 o).trans (q10 o),q11⟩
      |vec T xs=>
        simp only[aj]at ho ⊢;rcases ho with q|⟨b',arr,q1,q2,q3,q4,q5⟩
        · exact .inl q
        · obtain⟨s1,s2⟩:=hob b' (by rw[q1];rfl)
          exact .inr ⟨b',arr,q1,s1.trans q2,q3,λo=>(s2 o).trans (q4 o),q5⟩
      |ei es clock aL seen=>
        simp only[aj]at ho ⊢;rcases ho with q|⟨r,bm,q1,q2,q3,q4,q5,q6,q7⟩
        · exact .inl q
        · obtain⟨s1,s2⟩:=hob r (by rw[q1];rfl)
          exact .inr ⟨r,bm,q1,s1.trans q2,hle _ _ _ q3,eo hle _ _ q4,q5,λo=>(s2 o).trans (q6 o),q7⟩
      |b8 T e n hole=>
        simp only[aj]at ho ⊢;rcases ho with q|⟨b',cap,arr,hs,q1,q2,q3,q4,q5,q6,q7,q8,q9,q10⟩
        · exact .inl q
        · obtain⟨s1,s2⟩:=hob b' (by rw[q1];rfl)
          exact .inr ⟨b',cap,arr,hs,q1,q2,q3,s1.trans q4,q5,q6,q7,q8,λo=>(s2 o).trans (q9 o),q10⟩
      |gh K E e keys hole fx=>
        simp only[aj]at ho ⊢;rcases ho with q|⟨r,es,clock,hs,as,q1,q2,q3,q4,q5,q6,q7,q8⟩
        · exact .inl q
        · obtain⟨s1,s2⟩:=hob r (by rw[q1];rfl)
          exact .inr ⟨r,es,clock,hs,as,q1,s1.trans q2,q3,q4,q5.mono hle,λo=>(s2 o).trans (q6 o),q7,q8⟩
      |cells T cs=>
        simp only[aj]at ho ⊢;rcases ho with q|⟨b',arr,q1,q2,q3,q4,q5⟩
        · exact .inl q
        · obtain⟨s1,s2⟩:=hob b' (by rw[q1];rfl)
          exact .inr ⟨b',arr,q1,s1.trans q2,iN hle (HLe.refl β) _ _ q3,λo=>(s2 o).trans (q4 o),q5⟩
      |slice T sz xs k fz=>
        simp only[aj]at ho ⊢;rcases ho with q|q|⟨b',cap,arr,q1,q2,q3,q4,q5,q6,q7,q8,q9,q10,q11⟩
        · exact .inl q
        · exact .inr (.inl q)
        · obtain⟨s1,s2⟩:=hob b' (by rw[q1];rfl)
          exact .inr (.inr ⟨b',cap,arr,q1,q2,q3,s1.trans q4,q5,ef hle _ _ q6,q7,q8,λhz o ho=>(s2 o).trans (q9 hz o ho),λo ho=>(s2 o).trans (q10 o ho),q11⟩)
      |win T sz xs=>
        simp only[aj]at ho ⊢;rcases ho with q|q|⟨b',o',cap,arr,q1,q2,q3,q4,q5,q6,q7,q8,q9⟩
        · exact .inl q
        · exact .inr (.inl q)
        · obtain⟨s1,s2⟩:=hob b' (by rw[q1];rfl)
          exact .inr (.inr ⟨b',o',cap,arr,q1,q2,q3,s1.trans q4,q5,jy hle _ _ _ q6,q7,λhz o ho=>(s2 o).trans (q8 hz o ho),q9⟩)
      |map K E aL=>
        simp only[aj]at ho ⊢;rcases ho with q|⟨r,es,clock,q1,q2,q3,q4,q5⟩
        · exact .inl q
        · obtain⟨s1,s2⟩:=hob r (by rw[q1];rfl)
          exact .inr ⟨r,es,clock,q1,s1.trans q2,eo hle _ _ q3,λo=>(s2 o).trans (q4 o),q5⟩
      |jA K E aL=>
        simp only[aj]at ho ⊢;rcases ho with q|⟨r,es,clock,q1,q2,q3,q4,q5⟩
        · exact .inl q
        · exact .inr ⟨r,es,clock,q1,hle _ _ _ q2,eo hle _ _ q3,q4,q5⟩
      |dI es clock K E aL=>
        simp only[aj]at ho ⊢;rcases ho with q|⟨r,q1,q2,q3,q4,q5⟩
        · exact .inl q
        · obtain⟨s1,s2⟩:=hob r (by rw[q1];rfl)
          exact .inr ⟨r,q1,s1.trans q2,eo hle _ _ q3,λo=>(s2 o).trans (q4 o),q5⟩
      |iter dm since c0 seen=>
        simp only[aj]at ho ⊢;rcases ho with q|⟨r,bm,q1,q2,q3,q4,q5⟩
        · exact .inl q
        · obtain⟨s1,s2⟩:=hob r (by rw[q1];rfl)
          exact .inr ⟨r,bm,q1,q2,s1.trans q3,λo=>(s2 o).trans (q4 o),q5⟩
      |hdr dm n=>exact ho
  ·
    have at2:∀x,(σ2.get x).isSome→(if x∈news then β' x else β x)=β' x:=λx hx=>by
      obtain⟨o,hx⟩:=Option.isSome_iff_exists.1 hx;exact hm x (Sto.cm hok x o hx).1
    have side:∀x,(Sto.get (σ2++σ.minus σc.ids) x).isSome→(σ2.get x).isSome∨∃o,(σ.minus σc.ids).get x=some o:=λx hx=>by
      rw[Sto.ji]at hx;cases h2:σ2.get x with
      |some o=>exact .inl rfl
      |none=>rw[h2]at hx;exact .inr (Option.isSome_iff_exists.1 hx)
    have mixed:∀x y,(σ2.get x).isSome→(∃o,(σ.minus σc.ids).get y=some o)→b∈bY (β' x)→b∈bY (β y)→False:=λx y hx ⟨o,hy⟩ e1 e2=>by
      obtain⟨ox,hx⟩:=Option.isSome_iff_exists.1 hx;obtain⟨q1,q2⟩:=ad2 y o hy b e2;rcases h'.placeOf hx e1 with q|q
      · exact absurd q (by omega)
      · exact q2 q
    show b∈bY (if x∈news then β' x else β x)→b∉bY (if y∈news then β' y else β y);rcases side x hx with h1|⟨o1,h1⟩<;>rcases side y hy with h2|⟨o2,h2⟩
    · rw[at2 x h1,at2 y h2]
      exact h'.bQ x y h1 h2 hne b
    · rw[at2 x h1,xL y o2 h2]
      exact λe1 e2=>mixed x y h1 ⟨o2,h2⟩ e1 e2
    · rw[xL x o1 h1,at2 y h2]
      exact λe1 e2=>mixed y x h2 ⟨o1,h1⟩ e2 e1
    · rw[xL x o1 h1,xL y o2 h2]
      exact h.bQ x y (by rw[(rest x o1 h1).2];rfl) (by rw[(rest y o2 h2).2];rfl) hne b
  · have:x∉news:=λhxn=>(hn x hxn).1 hx
    simp only[this,if_false];exact h.keep x hx
end after
section ops
variable {G:Gl}{o:Oper}{ev:Operand→AV}{σ:Sto}
theorem ni{I:Imm}{β:Nat→Value}(ev:Operand→AV)(ρ:Operand→Value):∀(xs:List Operand),(∀x∈xs,Rep I β (ev x) (ρ x))→aW I β (xs.map ev) (xs.map ρ)
 |[],_=>by simp[aW]
 |x::r,h=>by
  simp only[List.map_cons,aW];exact⟨ρ x,r.map ρ,rfl,h x (by simp),ni ev ρ r λy hy=>h y (by simp[hy])⟩
theorem qh{P:Program}{o:Oper}{fo:Operand}{args:Array Operand}{k:Array TypeId}{ρ:Operand→Value}{f:FuncId}{vs:Array Value}{w:World}(h:o.op=.call ⟨.value fo,args,k⟩)(hf:ρ fo=.func (.func f) #[] vs)
  (kf:∀(args:Array Value) (w:World),(callFunc f args).run P w=.ok (.enter f args) w):(execOp ρ o).run P w=.ok (.enter f ((args.toList.map ρ++vs.toList).toArray)) w:=by
 simp[execOp,h,resolve,hf,Deferred.ofValue,invoke,kf]
theorem Y.call{fo:Operand}{args:Array Operand}{k:Array TypeId}{f:FuncId}{cap avs:List AV}{σs σc:Sto}{r:AV}(h:o.op=.call ⟨.value fo,args,k⟩)(hf:ev fo=.fn f cap)
  (kf:∀(args:Array Value) (w:World),(callFunc f args).run G.P w=.ok (.enter f args) w) (hs:∀p∈σs,σ.get p.1=some p.2) (ha:fM σs (args.toList.map ev++cap) avs) (hc:∀p∈σc,σs.get p.1=some p.2)
  (hro:RO G.P f σc avs r) (hr:r.closed=true) (hcc:σc.clean (λd=>!(σc.ids++[]).contains d)=true):Yields G o ev σ [] σs.ids r:=by
 intro σ' cx I β w ρ hR hw _ hop;have hf1:=hop fo (by simp[h,Op.operands,Call.operands]);rw[hf]at hf1;simp only[Rep]at hf1;obtain⟨vs,hf1,hcap⟩:=hf1;rw[qh h hf1 kf]
 have hsub:∀d o,σs.get d=some o→σ'.get d=some o:=λd o hd=>by
  obtain⟨p,p1,p2,p3⟩:=jo σs d o hd;rw[hR d (by rw[←p2];exact List.mem_map.2 ⟨p,p1,rfl⟩),←p2,←p3];exact hs p p1
 have hws:=hw.sub hsub;have hargs:=fI _ _ _ _ (ni ev ρ args.toList λx hx=>hop x (by simp only[h,Op.operands,Call.operands];simp;right;simpa using hx)) hcap;have nj:=ha.rep hws _ hargs;have hsc:∀p∈σc,σ'.get p.1=some p.2:=λp hp=>hsub _ _ (hc p hp);have hin:=hw.wA (P:=G.P) hsc;refine Calls.mono (hro _ w I β _ hin nj) ?_;rintro e w' ⟨v,he,r',σ2,I',β',⟨hr1,hr2⟩,fD,hw'⟩;subst hr1 hr2;obtain⟨h1,h2,h3⟩:=hw.after hsc hw' [] (by simp) (Sto.gi _) hcc;refine⟨v,he,I',β,?_,?_,h2,λ_ _=>rfl⟩
 ·exact aB.rep β _ _ (Rep.closed r' v hr fD)
 ·refine({h1 with}:aX G cx I' β (σ2++σ'.minus σ2.ids) w').sub λd o hd=>?_;rw[Sto.ji,Sto.dn];cases h2:σ2.get d with
  |some o'=>
   obtain⟨p,p1,p2,p3⟩:=jo σ2 d o' h2;have:=hsc p p1;rw[p2,p3,hd]at this;simpa using this.symm
  |none=>
   have:d∉σ2.ids:=λhm=>by have:=Sto.zD hm;rw[h2]at this;cases this
   simp[this,hd]
theorem D.call{fo:Operand}{args:Array Operand}{k:Array TypeId}{f:FuncId}{cap avs:List AV}{σc:Sto}{Post:AV→Sto→Prop}(news:List Nat)(h:o.op=.call ⟨.value fo,args,k⟩)(hf:ev fo=.fn f cap)
  (kf:∀(args:Array Value) (w:World),(callFunc f args).run G.P w=.ok (.enter f args) w) (hs:∀p∈σc,σ.get p.1=some p.2) (ha:fM σ (args.toList.map ev++cap) avs)
  (hro:b9 G.P f σc avs Post) (hn:news.all (λd=>!G.ids.contains d&&(σ.get d).isNone)=true) (hcl:(σ.minus σc.ids).clean news.contains=true)
  (hok:∀r σ2,Post r σ2→r.refs (λd=>!(σc.ids++news).contains d)=false∧σ2.clean (λd=>!(σc.ids++news).contains d)=true) :
  dU G o ev σ (σc.ids++news) news (λr σ'=>∃σ2,Post r σ2∧σ'=σ2++σ.minus σc.ids):=by
 intro cx I β w ρ hw hop;have hf1:=hop fo (by simp[h,Op.operands,Call.operands]);rw[hf]at hf1;simp only[Rep]at hf1;obtain⟨vs,hf1,hcap⟩:=hf1;rw[qh h hf1 kf];have hargs:=fI _ _ _ _ (ni ev ρ args.toList λx hx=>hop x (by simp only[h,Op.operands,Call.operands];simp;right;simpa using hx)) hcap;have nj:=ha.rep hw _ hargs;have hin:=hw.wA (P:=G.P) hs
 have hn':∀d∈news,d∉G.ids∧σ.get d=none:=λd hd=>by
  have:=List.all_eq_true.1 hn d hd;simpa using this
 refine Calls.mono (hro _ w I β _ hin nj) ?_;rintro e w' ⟨v,he,r,σ2,I',β',hp,fD,hw'⟩;obtain⟨k1,k2⟩:=hok r σ2 hp;obtain⟨h1,h2,h3⟩:=hw.after hs hw' news hn' hcl k2;refine⟨v,he,r,_,I',_,⟨σ2,hp,rfl⟩,h3 r v k1 fD,h1,h2,λd hd=>by simp[hd],λd hd=>?_⟩;have hd:d∉σc.ids∧d∉news:=by simpa using hd
 rw[Sto.ji,Sto.dn,if_neg hd.1];cases h2:σ2.get d with
 |some o'=>
  have:=(Sto.cm k2 d o' h2).1;have:(σc.ids++news).contains d=true:=by rw[←Bool.not_eq_false'];exact this
  exact absurd (List.mem_append.1 (List.contains_iff_mem.1 this)) (by simp[hd.1,hd.2])
 |none=>rfl
theorem kg{P:Program}{w:World}{b off:Nat}{T':TypeId}{arr:Array Value}(hb:w.heap[b]?=some (.cells arr T' (0,0)))(vs:List Value)(hl:off+vs.length≤arr.size)(h1:∀v∈vs,v.oneCell'=true):
  (storeCells ⟨b,off,none⟩ vs).run P w=.ok () (w.setRow b (cG arr.toList off vs).toArray):=by
 have:=run_storeCells_at P b off T' vs 0 arr w hb (by simpa using hl) h1;simpa [cG]using this
theorem adF{I:Imm}{β:Nat→Value}{cs ds:List AV}{vs us:List Value}(off:Nat)(h:aW I β cs vs)(h':aW I β ds us):aW I β (cG cs off ds) (cG vs off us):=by
 unfold cG;rw[gd _ _ h'];exact fI _ _ _ _ (fI _ _ _ _ (oP _ _ _ h) h') (oO _ _ _ h)
def Sto.set(d:Nat)(o:br):Sto→Sto
 |[]=>[]
 |(k,x)::r=>bif Nat.beq k d then(k,o)::r else(k,x)::Sto.set d o r
theorem Sto.cB(d:Nat)(o:br):∀(σ:Sto) (x:Nat),(Sto.set d o σ).get x=if x=d then(σ.get d).map λ_=>o else σ.get x
 |[],x=>by simp[Sto.set,Sto.get]
 |(k,y)::r,x=>by
  simp only[Sto.set];by_cases hk:k=d
  ·subst hk;simp only[Nat.beq_refl,cond_true,Sto.aK];by_cases hx:k=x
   ·subst hx;simp
   ·simp[hx,Ne.symm hx]
  ·have:Nat.beq k d=false:=by rw[←Bool.not_eq_true,Nat.beq_eq];exact hk
   simp only[this,cond_false,Sto.aK,Sto.cB d o r x];by_cases hx:k=x
   ·subst hx;simp[hk]
   ·simp[hx,hk]
theorem D.wG{T T' d p n:Nat}{x y:Operand}{a:AV}{cs:List AV}(h:o.op=.store T x y)(hx:ev x=.ptr d p)(hy:ev y=a)(hd:σ.get d=some (.cells T' cs))(hT:∀w,(sizeOf T).run G.P w=.ok n w)
  (hf:a.flat=true) (hn:(fB a).length=n) (hl:p+n≤cs.length) :
  dU G o ev σ [d] [] (λr σ'=>r=.undef∧σ'=σ.set d (.cells T' (cG cs p (fB a)))):=by
 intro cx I β w ρ hw hop;have h1:=hop x (by simp[h,Op.operands]);rw[hx]at h1
 have h2:=hop y (by simp[h,Op.operands]);rw[hy]at h2
 simp only[Rep]at h1;obtain⟨b,h1,h3⟩:=h1;obtain⟨arr,q1,q2,q3,q4,q5⟩:=hw.box hd h1;obtain⟨f1,f2⟩:=AV.qK hf h2;have l1:=gd _ _ q3;have l2:=gd _ _ f1;simp only[Array.length_toList]at l1 l2;have hst:=kg (P:=G.P) q2 (ρ y).cells.toList (off:=p) (by simp;omega) f2;have hrun:(execOp ρ o).run G.P w=.ok .skip (w.setRow b (cG arr.toList p (ρ y).cells.toList).toArray):=by
  have e1:¬((ρ y).cells.size≠n):=by omega
  simp[execOp,h,h3,Instr.storeAt,Instr.sureAddr,storeVar,hT,e1,hst]
 rw[hrun];refine⟨.undef,_,I,β,⟨rfl,rfl⟩,by simp[Rep,aB],?_,aQ.refl I,λ_ _=>rfl,λx hx=>by rw[Sto.cB,if_neg (by simpa using hx)]⟩;have hbd:blk (β d)=some b:=h1
 refine hw.turn (d:=d) (Kept.setRow w b _) q5 (λx hx=>by rw[Sto.cB,if_neg hx]) (λx hx hs e=>hw.bQ x d hs (by rw[hd];rfl) hx b e (cR hbd)) (aQ.refl I) (λ_ _ _=>rfl)
  (λo v hv=>by rw[q4 o]at hv;cases hv) (q4 none) (λ_ _=>rfl) (.inr rfl) (HLe.refl β) (.inl hbd) λob hob=>?_
 rw[Sto.cB,if_pos rfl,hd]at hob;injection hob with hob
 subst hob;simp only[aj];exact .inr ⟨b,_,q1,setRow_heap w b arr _ T' _ q2,by simpa using adF p q3 f1,q4,q5⟩
end ops
end
section
structure gL(P:Program)(T E sz bytes:Nat):Prop where
 und:P.underlying T=some (.slice E)
 info:∃i z,P.info? E=some i∧i.zero=some z∧i.size=sz∧i.bytes=bytes∧z.cells.size=sz
 pos:0<sz
theorem lG{I:Imm}{b:Nat}{w:World}(hg:∀b (o:Nat) v,I b o=some v→w.cell? ⟨b,o,none⟩=some v):∀(xs:List (List AV)) (o:Nat),dg I b xs o→
  ∃vs:List Value,aS I xs.flatten vs∧∀j v,vs[j]?=some v→w.cell? ⟨b,o+j,none⟩=some v
 |[],o,_=>⟨[],rfl,λj v h=>by simp at h⟩
 |e::r,o,h=>by
  simp only[dg]at h;obtain⟨vs,h1,h2⟩:=tJ hg e o h.1;obtain⟨us,h3,h4⟩:=lG hg r (o+e.length) h.2;have hl:=dQ _ _ h1;refine⟨vs++us,by simp only[List.flatten_cons];exact(cS _ _ _).2 ⟨vs,us,rfl,h1,h3⟩,λj v hv=>?_⟩;rcases Nat.lt_or_ge j vs.length with hj|hj
  ·rw[List.getElem?_append_left hj]at hv;exact h2 j v hv
  ·rw[List.getElem?_append_right hj]at hv;have:=h4 (j-vs.length) v hv
   rwa [hl,show o+e.length+(j-e.length)=o+j from by omega]at this
theorem abi{I:Imm}:∀(cs:List AV) (vs:List Value),cs.all AV.one=true→aS I cs vs→∀v∈vs,v.oneCell'=true:=λcs vs hc h=>
 yN (β:=λ_=>undef) cs vs hc (aS.rep _ cs vs h)
section ops
variable {G:Gl}{o:Oper}{ev:Operand→AV}{σ:Sto}
theorem dz{P:Program}{o:Oper}{s x:Operand}{t:Nat}{ρ:Operand→Value}{w w':World}{v':Value}(h:o.op=.call ⟨.builtin .append,#[s,x],#[t,t]⟩)(hr:(Builtin.append_ #[t,t] o.type #[ρ s,ρ x]).run P w=.ok v' w'):
  (execOp ρ o).run P w=.ok (.value v') w':=by
 simp[execOp,h,resolve,invoke,builtin,hr]
theorem adG{α:Type}(L news:List α)(n j:Nat)(hj:j<n)(hn:n≤L.length):(L.take n++news++L.drop (n+news.length))[j]?=L[j]?:=by
 rw[List.append_assoc,List.getElem?_append_left (by rw[List.length_take];omega),List.getElem?_take,if_pos hj]
theorem D.append{s x:Operand}{T E sz bytes d d2 T' k:Nat}{f fz:Bool}{xs ys:List (List AV)}(h:o.op=.call ⟨.builtin .append,#[s,x],#[T,T]⟩)(hs:ev s=.own d)(hd:σ.get d=some (.slice T' sz xs k fz))(hx:eT σ (ev x) (.lst f ys))(hT:gL G.P T E sz bytes)(hE:T'=E)
  (hys:∀e∈ys,e.length=sz) (h1:ys.flatten.all AV.one=true) (hb:(xs.length+ys.length)*bytes≤140737488355328) (h63:xs.length+ys.length≤maxLen) (hi:G.ids.contains d2=false)
  (hc:(σ.minus [d]).clean [d2].contains=true) :
  dU G o ev σ [d,d2] [d2] (λr σ'=>r=.own d2∧σ'=(d2,.slice T' sz (xs++ys) k false)::σ.minus [d]):=by
 subst hE;intro cx I β w ρ hw hop;have hs1:=hop s (by simp[h,Op.operands,Call.operands]);rw[hs]at hs1;simp only[Rep]at hs1;obtain⟨hs1,hs2⟩:=hs1;have hx1:=hx.rep hw _ (hop x (by simp[h,Op.operands,Call.operands]));simp only[Rep,aB]at hx1;obtain⟨a,c,hx1,hx2,hx3,_,hx4⟩:=hx1;obtain⟨i,z,hi1,hz1,hz2,hz3,hz4⟩:=hT.info;have hnews:∃news:List Value,aS I ys.flatten news∧(ys.length=0∨∃ad:Addr,a=some ad∧∀j u,news[j]?=some u→w.cell? (ad.add j)=some u):=by
  rcases hx4 with rfl|⟨b,o,rfl,hr⟩
  ·exact⟨[],rfl,.inl rfl⟩
  ·obtain⟨vs,q1,q2⟩:=lG hw.good ys o hr;exact⟨vs,q1,.inr ⟨_,rfl,λj u hu=>by rw[dY];exact q2 j u hu⟩⟩
 obtain⟨news,hn1,hn2⟩:=hnews;have hnl:news.length=ys.length*sz:=by rw[dQ _ _ hn1];exact jm ys hys
 have hone:=abi _ _ h1 hn1;have hsm:xs.length+ys.length≤9223372036854775807:=by simp only[maxLen]at h63;omega
 have hw1:aX G cx I β (σ.minus [d]) w:=hw.sub λx ob hx=>by rw[Sto.dn]at hx;split at hx<;>first|cases hx|exact hx
 have hw2:=hw1.ov (mat:=[d2]) (σ2:=(d2,.slice T' sz (xs++ys) k false)::σ.minus [d]) (env:=[]) ⟨λx hx=>by rw[Sto.aK,if_neg (λe=>hx (by simp[e]))],λx hx=>by simp at hx;subst hx;simpa using hi,rfl,hc,λx hx dm n h=>by simp at hx;subst hx;rw[Sto.aK,if_pos rfl]at h;cases h⟩;have dN:∀x,x≠d2→dP β [d2] x=β x:=λx hx=>by simp[dP,hx]
 have fin:∀(v':Value) (w':World) (b:Nat),(execOp ρ o).run G.P w=.ok (.value v') w'→fP v'=true→Kept w w' b→Place cx b→(∀x,((σ.minus [d]).get x).isSome→b∉bY (β x))→
   (∀(o:Nat) v,I b o=some v→w'.cell? ⟨b,o,none⟩=some v)→I b none=none→(blk v'=some b∨bY v'=[])→aj cx I (en β d2 v') w' d2 (.slice T' sz (xs++ys) k false)→
   gK G.P (λv w'=>∃(av:AV) (σ':Sto) (I':Imm) (β':Nat→Value),(av=.own d2∧σ'=(d2,br.slice T' sz (xs++ys) k false)::σ.minus [d])∧Rep I' β' av v∧aX G cx I' β' σ' w'∧aQ I I'∧(∀x,x∉[d2]→β' x=β x)∧(∀x,x∉[d,d2]→σ'.get x=σ.get x)) ((execOp ρ o).run G.P w):=by
  intro v' w' b hrun hsl hk hp hfree uO hnm hbd hob;rw[hrun];refine⟨.own d2,_,I,en β d2 v',⟨rfl,rfl⟩,by simp only[Rep,bO,hsl,and_self],?_,aQ.refl I,λx hx=>cc β v' (by simpa using hx),λx hx=>?_⟩
  ·refine hw2.turn (d:=d2) hk hp (λ_ _=>rfl) (λx hx hsm e=>?_) (aQ.refl I) (λ_ _ _=>rfl) uO hnm (λx hx=>by rw[cc β v' hx,dN x hx]) (.inl (by simpa using hi)) (λx=>?_) (by rw[bO];exact hbd) (λob mb=>?_)
   ·rw[Sto.aK,if_neg (Ne.symm hx)]at hsm;rw[dN x hx]at e;exact hfree x hsm e
   ·by_cases hx:x=d2
    ·left;simp[dP,hx]
    ·right;rw[cc β v' hx,dN x hx]
   ·rw[Sto.aK,if_pos rfl]at mb;injection mb with mb
    subst mb;exact hob
  ·have hx:x≠d∧x≠d2:=by simpa using hx
   rw[Sto.aK,if_neg (Ne.symm hx.2),Sto.dn,if_neg (by simpa using hx.1)]
 have other:∀b,blk (β d)=some b→∀x,((σ.minus [d]).get x).isSome→b∉bY (β x):=λb hbd x hx e=>by
  rw[Sto.dn]at hx;split at hx
  ·cases hx
  ·rename_i hxd;exact hw.bQ x d hx (by rw[hd];rfl) (by simpa using hxd) b e (cR hbd)
 have fresh:∀x,((σ.minus [d]).get x).isSome→w.heap.size∉bY (β x):=λx hx e=>by
  obtain⟨ob,hx⟩:=Option.isSome_iff_exists.1 hx;exact absurd (hw1.lE hx e) (by omega)
 have fnm:I w.heap.size none=none:=hw.ct (Nat.le_refl _) none;have s7:∀(w':World) (o:Nat) v,I w.heap.size o=some v→w'.cell? ⟨w.heap.size,o,none⟩=some v:=λw' o v hv=>by rw[hw.ct (Nat.le_refl _)]at hv;cases hv
 have mB:∀old,old<xs.length+ys.length→xs.length+ys.length≤grownCap w (xs.length+ys.length) old T'∧grownCap w (xs.length+ys.length) old T'≤maxLen:=λold _=>⟨grownCap_ge _ _ _ _,grownCap_le_maxLen _ _ _ _ h63⟩
 have nY:∀(olds:List Value) (cap:Nat),aS I xs.flatten olds→olds.length=xs.length*sz→(∀e∈xs,e.length=sz)→k≤xs.length→xs.length+ys.length≤cap→cap≤maxLen→
   aj cx I (en β d2 (.slice (some ⟨w.heap.size,0,none⟩) (xs.length+ys.length) cap)) (w.drew.alloc (.cells (olds.toArray++news.toArray++Builtin.zeroCells z.cells (cap-(xs.length+ys.length))) T')) d2 (.slice T' sz (xs++ys) k false):=by
  intro olds cap ho1 ho2 ho3 ho4 hc1 hc2;simp only[aj,bO];have hlen:(olds++news).length=(xs++ys).length*sz:=by rw[List.length_append,List.length_append,ho2,hnl,Nat.add_mul]
  refine .inr (.inr ⟨w.heap.size,cap,_,by rw[List.length_append],by rw[List.length_append];exact hc1,hc2,heap_alloc_new w.drew _,?_,?_,?_,by rw[List.length_append];omega,by simp,λo _=>hw.ct (Nat.le_refl _) o,.inl hw.size⟩)
  ·simp only[Array.size_append,List.size_toArray,size_zeroCells,hz4,ho2,hnl,←Nat.add_mul];congr 1;omega
  ·have:(olds.toArray++news.toArray++Builtin.zeroCells z.cells (cap-(xs.length+ys.length))).toList.take ((xs++ys).length*sz)=olds++news:=by
    simp only[Array.toList_append,List.append_assoc];rw[←List.append_assoc,←hlen];exact List.take_left
   rw[this,List.flatten_append];exact(cS _ _ _).2 ⟨_,_,rfl,ho1,hn1⟩
  ·intro e he;rcases List.mem_append.1 he with he|he
   ·exact ho3 e he
   ·exact hys e he
 have mC:∀ob,Kept w (w.drew.alloc ob) w.heap.size:=λob=>(Kept.alloc w.drew ob).drew;have ho:=hw.bB d _ hd;simp only[aj]at ho;rcases ho with q|⟨q,rfl,rfl⟩|⟨b,cap,arr,q1,q2,q3,q4,q5,q6,q7,q8,q9,q10,q11⟩
 ·rw[q]at hs1;rw[hs1]at hs2;simp[fP]at hs2
 ·
  rcases Nat.eq_zero_or_pos ys.length with hm|hm
  ·have hy:ys=[]:=List.eq_nil_of_length_eq_zero hm;subst hy;refine fin (.slice none 0 0) w w.heap.size (dz h ?_) rfl ⟨λ_ _ _=>rfl,Nat.le_refl _,rfl,rfl,rfl,Nat.le_refl _⟩ (.inl hw.size) fresh (s7 w) fnm (.inr rfl) ?_
   ·rw[hs1,hx1,q];cases a<;>simp[Builtin.append_,run_underlying hT.und,Go.sizeOf,typeInfo,hi1,Builtin.lenOf,Builtin.firstCells,loadCells,loadCellsFrom]
   ·simp only[aj,bO];exact .inr (.inl ⟨trivial,rfl,trivial⟩)
  ·obtain⟨ad,rfl,hcells⟩:=hn2.resolve_left (by omega);have hr:=run_append_nil (P:=G.P) w T o.type T' i z hT.und hi1 hz1 ad ys.length c news (by rw[hz2];exact hnl) hcells hm (by simp at hsm;omega) (by simp at hb;rw[hz3];omega);obtain⟨g1,g2⟩:=mB 0 (by simp;exact hm);simp only[List.length_nil,Nat.zero_add]at g1 g2;refine fin _ _ w.heap.size (dz h (by rw[hs1,hx1,q];exact hr)) rfl (mC _) (.inl hw.size) fresh (s7 _) fnm (.inl rfl) ?_;have:=nY [] (grownCap w ys.length 0 T') rfl (by simp) (by simp) (Nat.le_refl _) (by simpa using g1) g2;simpa using this
 ·have hbd:blk (β d)=some b:=by rw[q1];rfl
  have hlt:=bF q4;have hal:arr.toList.length=cap*sz:=by simpa using q5
  have hxl:xs.length*sz≤arr.toList.length:=by rw[hal];exact Nat.mul_le_mul_right _ q2
  have hkl:∀(o:Nat) v,I b o=some v→o<xs.length*sz:=λo v hv=>by
   rcases Nat.lt_or_ge o (k*sz)with hk|hk
   ·exact Nat.lt_of_lt_of_le hk (Nat.mul_le_mul_right _ q8)
   ·rw[q10 o hk]at hv;cases hv
  by_cases hroom:xs.length+ys.length≤cap
  ·
   have hlen:(arr.toList.take (xs.length*sz)++news).length=(xs++ys).length*sz:=by rw[List.length_append,List.length_take,Nat.min_eq_left hxl,List.length_append,hnl,Nat.add_mul]
   have aas:∀(w':World) (mT:Array Value),w'.heap[b]?=some (.cells mT T' (0,0))→mT.toList=arr.toList.take (xs.length*sz)++news++arr.toList.drop (xs.length*sz+news.length)→
     aj cx I (en β d2 (.slice (some ⟨b,0,none⟩) (xs.length+ys.length) cap)) w' d2 (.slice T' sz (xs++ys) k false):=by
    intro w' mT hh he;simp only[aj,bO];refine .inr (.inr ⟨b,cap,mT,by rw[List.length_append],by rw[List.length_append];exact hroom,q3,hh,?_,?_,?_,by rw[List.length_append];omega,by simp,q10,q11⟩)
    ·have hroom2:xs.length*sz+news.length≤arr.toList.length:=by rw[hnl,←Nat.add_mul,hal];exact Nat.mul_le_mul_right _ hroom
     have hal':mT.size=mT.toList.length:=by simp
     rw[hal',he,←hal];simp only[List.length_append,List.length_take,List.length_drop];omega
    ·rw[he,←hlen,List.take_left,List.flatten_append];exact(cS _ _ _).2 ⟨_,_,rfl,q6,hn1⟩
    ·intro e he;rcases List.mem_append.1 he with he|he
     ·exact q7 e he
     ·exact hys e he
   rcases Nat.eq_zero_or_pos ys.length with hm|hm
   ·have hy:ys=[]:=List.eq_nil_of_length_eq_zero hm;subst hy;have hnn:news=[]:=List.eq_nil_of_length_eq_zero (by simpa using hnl);subst hnn;refine fin (.slice (some ⟨b,0,none⟩) xs.length cap) w b (dz h ?_) rfl ⟨λ_ _ _=>rfl,Nat.le_refl _,rfl,rfl,rfl,Nat.le_refl _⟩ q11 (other b hbd) (λo v hv=>hw.good b o v hv) (hw.gN q4) (.inl rfl) ?_
    ·rw[hs1,hx1,q1];cases a<;>simp[Builtin.append_,run_underlying hT.und,Go.sizeOf,typeInfo,hi1,Builtin.lenOf,Builtin.firstCells,loadCells,loadCellsFrom,q2,storeCells]
    ·have:=aas w arr q4 (by simp);simpa using this
   ·obtain⟨ad,rfl,hcells⟩:=hn2.resolve_left (by omega);have hfit:xs.length*i.size+news.length≤arr.size:=by rw[hz2,hnl,q5,←Nat.add_mul];exact Nat.mul_le_mul_right _ hroom
    have hr:=run_append_room (P:=G.P) w T o.type T' i hT.und hi1 b xs.length cap arr q4 ad ys.length c news (by rw[hz2];exact hnl) hcells hone hroom hfit;rw[hz2]at hr;refine fin _ _ b (dz h (by rw[hs1,hx1,q1];exact hr)) rfl (Kept.setRow w b _) q11 (other b hbd) (λo v hv=>?_) (hw.gN q4) (.inl rfl) (aas _ _ (setRow_heap w b arr _ T' _ q4) rfl);have hg:=hw.good b o v hv;simp only[World.cell?,q4]at hg;simp only[World.cell?,setRow_heap w b arr _ T' _ q4];have hg:arr.toList[o]?=some v:=by simpa using hg
    have:=adG arr.toList news (xs.length*sz) o (hkl o v hv) hxl;rw[hg]at this;simpa using this
  ·
   have hm:0<ys.length:=by omega
   obtain⟨ad,rfl,hcells⟩:=hn2.resolve_left (by omega);have hol:(arr.toList.take (xs.length*sz)).length=xs.length*sz:=by rw[List.length_take,Nat.min_eq_left hxl]
   have holds:∀j v,(arr.toList.take (xs.length*sz))[j]?=some v→w.cell? ((⟨b,0,none⟩:Addr).add j)=some v:=λj v hv=>by
    rw[dY];rw[List.getElem?_take]at hv;split at hv
    ·simp only[World.cell?,q4,Nat.zero_add];simpa using hv
    ·cases hv
   have hr:=run_append_grow (P:=G.P) w T o.type T' i z hT.und hi1 hz1 ⟨b,0,none⟩ xs.length cap _ (by rw[hz2];exact hol) holds ad ys.length c news (by rw[hz2];exact hnl) hcells (by omega) (by omega) (growslice_fits (by omega) (by rw[hz3];exact hb));obtain⟨g1,g2⟩:=mB cap (by omega);exact fin _ _ w.heap.size (dz h (by rw[hs1,hx1,q1];exact hr)) rfl (mC _) (.inl hw.size) fresh (s7 _) fnm (.inl rfl) (nY _ _ q6 hol q7 q8 g1 g2)
theorem D.aat{s x:Operand}{T E sz bytes d2:Nat}{f:Bool}{xs ys:List (List AV)}(h:o.op=.call ⟨.builtin .append,#[s,x],#[T,T]⟩)(hs:(ev s=.bI∧xs=[])∨(ev s=.lst true xs∧0<ys.length))(hx:eT σ (ev x) (.lst f ys))(hT:gL G.P T E sz bytes)
  (hxs:∀e∈xs,e.length=sz) (hys:∀e∈ys,e.length=sz) (h1:ys.flatten.all AV.one=true) (hb:(xs.length+ys.length)*bytes≤140737488355328) (h63:xs.length+ys.length≤maxLen) (hi:G.ids.contains d2=false)
  (hc:σ.clean [d2].contains=true) :
  dU G o ev σ [d2] [d2] (λr σ'=>r=.own d2∧σ'=(d2,.slice E sz (xs++ys) 0 false)::σ):=by
 intro cx I β w ρ hw hop;have hs1:=hop s (by simp[h,Op.operands,Call.operands]);have hx1:=hx.rep hw _ (hop x (by simp[h,Op.operands,Call.operands]));simp only[Rep,aB]at hx1;obtain⟨a,c,hx1,hx2,hx3,_,hx4⟩:=hx1;obtain⟨i,z,hi1,hz1,hz2,hz3,hz4⟩:=hT.info;have hnews:∃news:List Value,aS I ys.flatten news∧(ys.length=0∨∃ad:Addr,a=some ad∧∀j u,news[j]?=some u→w.cell? (ad.add j)=some u):=by
  rcases hx4 with rfl|⟨b,o,rfl,hr⟩
  ·exact⟨[],rfl,.inl rfl⟩
  ·obtain⟨vs,q1,q2⟩:=lG hw.good ys o hr;exact⟨vs,q1,.inr ⟨_,rfl,λj u hu=>by rw[dY];exact q2 j u hu⟩⟩
 obtain⟨news,hn1,hn2⟩:=hnews;have hnl:news.length=ys.length*sz:=by rw[dQ _ _ hn1];exact jm ys hys
 have hsm:xs.length+ys.length≤9223372036854775807:=by simp only[maxLen]at h63;omega
 have hw2:=hw.ov (mat:=[d2]) (σ2:=(d2,.slice E sz (xs++ys) 0 false)::σ) (env:=[]) ⟨λx hx=>by rw[Sto.aK,if_neg (λe=>hx (by simp[e]))],λx hx=>by simp at hx;subst hx;simpa using hi,rfl,hc,λx hx dm n h=>by simp at hx;subst hx;rw[Sto.aK,if_pos rfl]at h;cases h⟩;have dN:∀x,x≠d2→dP β [d2] x=β x:=λx hx=>by simp[dP,hx]
 have fresh:∀x,(σ.get x).isSome→w.heap.size∉bY (β x):=λx hx e=>by
  obtain⟨ob,hx⟩:=Option.isSome_iff_exists.1 hx;exact absurd (hw.lE hx e) (by omega)
 have fnm:I w.heap.size none=none:=hw.ct (Nat.le_refl _) none;have s7:∀(w':World) (o:Nat) v,I w.heap.size o=some v→w'.cell? ⟨w.heap.size,o,none⟩=some v:=λw' o v hv=>by rw[hw.ct (Nat.le_refl _)]at hv;cases hv
 have fin:∀(v':Value) (w':World),(execOp ρ o).run G.P w=.ok (.value v') w'→fP v'=true→Kept w w' w.heap.size→(blk v'=some w.heap.size∨bY v'=[])→aj cx I (en β d2 v') w' d2 (.slice E sz (xs++ys) 0 false)→
   gK G.P (λv w'=>∃(av:AV) (σ':Sto) (I':Imm) (β':Nat→Value),(av=.own d2∧σ'=(d2,br.slice E sz (xs++ys) 0 false)::σ)∧Rep I' β' av v∧aX G cx I' β' σ' w'∧aQ I I'∧(∀x,x∉[d2]→β' x=β x)∧(∀x,x∉[d2]→σ'.get x=σ.get x)) ((execOp ρ o).run G.P w):=by
  intro v' w' hrun hsl hk hbd hob;rw[hrun];refine⟨.own d2,_,I,en β d2 v',⟨rfl,rfl⟩,by simp only[Rep,bO,hsl,and_self],?_,aQ.refl I,λx hx=>cc β v' (by simpa using hx),λx hx=>?_⟩
  ·refine hw2.turn (d:=d2) hk (.inl hw.size) (λ_ _=>rfl) (λx hx hsm e=>?_) (aQ.refl I) (λ_ _ _=>rfl) (s7 w') fnm (λx hx=>by rw[cc β v' hx,dN x hx]) (.inl (by simpa using hi)) (λx=>?_) (by rw[bO];exact hbd) (λob mb=>?_)
   ·rw[Sto.aK,if_neg (Ne.symm hx)]at hsm;rw[dN x hx]at e;exact fresh x hsm e
   ·by_cases hx:x=d2
    ·left;simp[dP,hx]
    ·right;rw[cc β v' hx,dN x hx]
   ·rw[Sto.aK,if_pos rfl]at mb;injection mb with mb
    subst mb;exact hob
  ·have hx:x≠d2:=by simpa using hx
   rw[Sto.aK,if_neg (Ne.symm hx)]
 have mB:∀old,old<xs.length+ys.length→xs.length+ys.length≤grownCap w (xs.length+ys.length) old E∧grownCap w (xs.length+ys.length) old E≤maxLen:=λold _=>⟨grownCap_ge _ _ _ _,grownCap_le_maxLen _ _ _ _ h63⟩
 have nY:∀(olds:List Value) (cap:Nat),aS I xs.flatten olds→olds.length=xs.length*sz→xs.length+ys.length≤cap→cap≤maxLen→
   aj cx I (en β d2 (.slice (some ⟨w.heap.size,0,none⟩) (xs.length+ys.length) cap)) (w.drew.alloc (.cells (olds.toArray++news.toArray++Builtin.zeroCells z.cells (cap-(xs.length+ys.length))) E)) d2 (.slice E sz (xs++ys) 0 false):=by
  intro olds cap ho1 ho2 hc1 hc2;simp only[aj,bO];have hlen:(olds++news).length=(xs++ys).length*sz:=by rw[List.length_append,List.length_append,ho2,hnl,Nat.add_mul]
  refine .inr (.inr ⟨w.heap.size,cap,_,by rw[List.length_append],by rw[List.length_append];exact hc1,hc2,heap_alloc_new w.drew _,?_,?_,?_,by omega,by simp,λo _=>hw.ct (Nat.le_refl _) o,.inl hw.size⟩)
  ·simp only[Array.size_append,List.size_toArray,size_zeroCells,hz4,ho2,hnl,←Nat.add_mul];congr 1;omega
  ·have:(olds.toArray++news.toArray++Builtin.zeroCells z.cells (cap-(xs.length+ys.length))).toList.take ((xs++ys).length*sz)=olds++news:=by
    simp only[Array.toList_append,List.append_assoc];rw[←List.append_assoc,←hlen];exact List.take_left
   rw[this,List.flatten_append];exact(cS _ _ _).2 ⟨_,_,rfl,ho1,hn1⟩
  ·intro e he;rcases List.mem_append.1 he with he|he
   ·exact hxs e he
   ·exact hys e he
 have mC:∀ob,Kept w (w.drew.alloc ob) w.heap.size:=λob=>(Kept.alloc w.drew ob).drew;rcases hs with⟨hs,rfl⟩|⟨hs,hm⟩
 ·rw[hs]at hs1;simp only[Rep,aB]at hs1;rcases Nat.eq_zero_or_pos ys.length with hm|hm
  ·have hy:ys=[]:=List.eq_nil_of_length_eq_zero hm;subst hy;refine fin (.slice none 0 0) w (dz h ?_) rfl ⟨λ_ _ _=>rfl,Nat.le_refl _,rfl,rfl,rfl,Nat.le_refl _⟩ (.inr rfl) ?_
   ·rw[hs1,hx1];cases a<;>simp[Builtin.append_,run_underlying hT.und,Go.sizeOf,typeInfo,hi1,Builtin.lenOf,Builtin.firstCells,loadCells,loadCellsFrom]
   ·simp only[aj,bO];exact .inr (.inl ⟨trivial,rfl,trivial⟩)
  ·obtain⟨ad,rfl,hcells⟩:=hn2.resolve_left (by omega);have hr:=run_append_nil (P:=G.P) w T o.type E i z hT.und hi1 hz1 ad ys.length c news (by rw[hz2];exact hnl) hcells hm (by simp at hsm;omega) (by simp at hb;rw[hz3];omega);obtain⟨g1,g2⟩:=mB 0 (by simp;exact hm);simp only[List.length_nil,Nat.zero_add]at g1 g2;refine fin _ _ (dz h (by rw[hs1,hx1];exact hr)) rfl (mC _) (.inl rfl) ?_;have:=nY [] (grownCap w ys.length 0 E) rfl (by simp) (by simpa using g1) g2;simpa using this
 ·rw[hs]at hs1;simp only[Rep,aB]at hs1;obtain⟨a0,c0,hs1,_,_,hcap,hrow⟩:=hs1;have hcap:=hcap trivial;subst hcap;obtain⟨ad,rfl,hcells⟩:=hn2.resolve_left (by omega);rcases hrow with rfl|⟨b,p,rfl,hrow⟩
  ·
   obtain⟨g1,g2⟩:=mB 0 (by simp;exact hm);simp only[List.length_nil,Nat.zero_add]at g1 g2;cases a0 with
   |none=>
    have hr:=run_append_nil (P:=G.P) w T o.type E i z hT.und hi1 hz1 ad ys.length c news (by rw[hz2];exact hnl) hcells hm (by simp at hsm;omega) (by simp at hb;rw[hz3];omega);refine fin _ _ (dz h (by rw[hs1,hx1];exact hr)) rfl (mC _) (.inl rfl) ?_;have:=nY [] (grownCap w ys.length 0 E) rfl (by simp) (by simpa using g1) g2;simpa using this
   |some a1=>
    have hr:=run_append_grow (P:=G.P) w T o.type E i z hT.und hi1 hz1 a1 0 0 [] (by simp) (by simp) ad ys.length c news (by rw[hz2];exact hnl) hcells (by omega) (by simp at hsm;omega) (growslice_fits (by omega) (by rw[hz3];simpa using hb));simp only[Nat.zero_add]at hr;refine fin _ _ (dz h (by rw[hs1,hx1];exact hr)) rfl (mC _) (.inl rfl) ?_;have:=nY [] (grownCap w ys.length 0 E) rfl (by simp) (by simpa using g1) g2;simpa using this
  ·obtain⟨olds,o1,o2⟩:=lG hw.good xs p hrow;have hol:olds.length=xs.length*sz:=by rw[dQ _ _ o1];exact jm xs hxs
   have hr:=run_append_grow (P:=G.P) w T o.type E i z hT.und hi1 hz1 ⟨b,p,none⟩ xs.length xs.length olds (by rw[hz2];exact hol) (λj v hv=>by rw[dY];exact o2 j v hv) ad ys.length c news (by rw[hz2];exact hnl) hcells (by omega) (by omega) (growslice_fits (by omega) (by rw[hz3];exact hb));obtain⟨g1,g2⟩:=mB xs.length (by omega);exact fin _ _ (dz h (by rw[hs1,hx1];exact hr)) rfl (mC _) (.inl rfl) (nY _ _ o1 hol g1 g2)
theorem Y.makeFunc{f:FuncId}{cap:Array Operand}(h:o.op=.makeFunc (.func f) #[] cap):Yields G o ev σ [] [] (.fn f (cap.toList.map ev)):=
 .pure λσ' cx I β w ρ hR hw hop=>by
  refine⟨.func (.func f) #[] (cap.map ρ),by simp[execOp,h,Instr.makeFunc],?_⟩;simp only[Rep];exact⟨_,rfl,by simpa using ni ev ρ cap.toList λx hx=>hop x (by simp only[h,Op.operands];simpa using hx)⟩
structure cN(P:Program)(T f off n:Nat)(ag:Bool):Prop where
 run:∀(cs:Array Value) w,off+n≤cs.size→(Instr.field T (.agg cs) f).run P w=.ok (if ag then .agg (cs.extract off (off+n))else cs.getD off undef) w
 pos:ag=false→n=1
theorem Y.field{T f off n:Nat}{ag:Bool}{x:Operand}{cs:List AV}(h:o.op=.field T x f)(hx:ev x=.agg cs)(hT:cN G.P T f off n ag)(hn:Nat.ble (off+n) cs.length=true):Yields G o ev σ [] [] (lD ag n (cs.drop off)):=
 .pure λσ' cx I β w ρ hR hw hop=>by
  have h1:=hop x (by simp[h,Op.operands]);rw[hx]at h1
  simp only[Rep]at h1;obtain⟨vs,h1,h2⟩:=h1;have hl:=gd _ _ h2;simp only[Array.length_toList]at hl;have hn:off+n≤cs.length:=by simpa using hn
  have hd:=oO off _ _ h2;refine⟨_,by simp only[execOp,h,h1,Sem.run_bind,hT.run vs w (by omega),Result.andThen_ok,Sem.run_pure];rfl,?_⟩;cases ag with
  |true=>
   simp only[lD,cond_true,if_true,Rep];refine⟨_,rfl,?_⟩;have:=oP n _ _ hd;simpa [Array.toList_extract,List.extract_eq_take_drop]using this
  |false=>
   simp only[lD,cond_false,Bool.false_eq_true,if_false];have hp:=hT.pos rfl;have hlt:off<vs.size:=by omega
   have e:vs.toList.drop off=vs[off]::vs.toList.drop (off+1):=by rw[List.drop_eq_getElem_cons (by simpa using hlt)];simp
   rw[e]at hd;rw[Array.getD_eq_getD_getElem?,Array.getElem?_eq_getElem hlt];generalize cs.drop off=ds at hd;cases ds with
   |nil=>simp[Rep]
   |cons y r=>
    simp only[aW]at hd;obtain⟨u,us,e,hd,_⟩:=hd;cases e;exact hd
theorem pE{I:Imm}{b sz:Nat}:∀(l:Nat) (xs:List (List AV)) (o:Nat),(∀e∈xs,e.length=sz)→dg I b xs o→dg I b (xs.drop l) (o+l*sz)
 |0,xs,o,_,h=>by simpa using h
 |l+1,[],o,_,_=>by simp[dg]
 |l+1,e::r,o,hl,h=>by
  simp only[dg]at h;have he:=hl e (by simp);have:=pE l r (o+e.length) (λx hx=>hl x (by simp[hx])) h.2;rw[he]at this;rw[Nat.add_mul,Nat.one_mul];simpa [Nat.add_assoc,Nat.add_comm sz]using this
theorem sF{I:Imm}{b:Nat}:∀(h:Nat) (xs:List (List AV)) (o:Nat),dg I b xs o→dg I b (xs.take h) o
 |0,_,_,_=>by simp[dg]
 |h+1,[],_,_=>by simp[dg]
 |h+1,e::r,o,hh=>by
  simp only[dg,List.take_succ_cons]at hh ⊢;exact⟨hh.1,sF h r _ hh.2⟩
theorem run_sliceBound{P:Program}{k:IntKind}{n:Int}{y:Nat}{code:BoundsCode}{w:World}(h:0≤n∧n≤(y:Int)):(Instr.sliceBound (.int k n) y code).run P w=.ok n.toNat w:=by
 unfold Instr.sliceBound;simp only[asIntOf,Sem.run_bind,Sem.run_pure,Result.andThen_ok];rw[if_pos h];rfl
def jC(ev:Operand→AV):Option Operand→Int|none=>0|some x=>match ev x with|.int _ n=>n|_=>-1
def pF(ev:Operand→AV)(len:Nat):Option Operand→Int|none=>len|some x=>match ev x with|.int _ n=>n|_=>-1
theorem uP{I:Imm}{β:Nat→Value}{ρ:Operand→Value}{x:Operand}(h:∃k n,ev x=.int k n)(hx:Rep I β (ev x) (ρ x)):∃k n,ev x=.int k n∧ρ x=.int k n:=by
 obtain⟨k,n,h⟩:=h;rw[h]at hx;exact⟨k,n,h,de hx⟩
def nZ(ev:Operand→AV):Option Operand→Prop|none=>True|some x=>∃k n,ev x=.int k n
theorem Y.slice{T E sz:Nat}{x:Operand}{f:Bool}{lo hi:Option Operand}{xs:List (List AV)}(h:o.op=.slice T x lo hi none)(hx:eT σ (ev x) (.lst f xs))(hT:SlS G.P T E sz)(hlen:∀e∈xs,e.length=sz)(ilo:nZ ev lo)(ihi:nZ ev hi)
  (hlo:0≤jC ev lo∧jC ev lo≤pF ev xs.length hi∧pF ev xs.length hi≤xs.length) (R:List Nat) (hR:∀σ':Sto,(∀d∈R,σ'.get d=σ.get d)→eT σ' (ev x) (.lst f xs)) :
  Yields G o ev σ [] R (.lst false ((xs.take (pF ev xs.length hi).toNat).drop (jC ev lo).toNat)):=
 .pure λσ' cx I β w ρ hRR hw hop=>by
  have h1:=(hR σ' hRR).rep hw _ (hop x (by simp[h,Op.operands]));simp only[Rep,aB]at h1;obtain⟨a,c,h1,h2,h3,_,h4⟩:=h1;generalize hl:jC ev lo=l at hlo ⊢;generalize hh:pF ev xs.length hi=u at hlo ⊢;have e1:(Instr.sliceBounds true xs.length c (lo.map ρ) (hi.map ρ) none).run G.P w=.ok (l.toNat,u.toNat,c) w:=by
   have hu:0≤u∧u≤(c:Int):=by omega
   have hll:0≤l∧l≤(u.toNat:Int):=by omega
   cases hi with
   |none=>
    simp only[pF]at hh;subst hh;cases lo with
    |none=>
     simp only[jC]at hl;subst hl;simp[Instr.sliceBounds]
    |some y=>
     obtain⟨k,n,q1,q2⟩:=uP ilo (hop y (by simp[h,Op.operands]));simp only[jC,q1]at hl;subst hl;have:=run_sliceBound (P:=G.P) (k:=k) (code:=.sliceB) (w:=w) hll;simp only[Int.toNat_natCast]at this;simp[Instr.sliceBounds,q2,this]
   |some z=>
    obtain⟨kz,nz,z1,z2⟩:=uP ihi (hop z (by simp[h,Op.operands]));simp only[pF,z1]at hh;subst hh;have r1:=run_sliceBound (P:=G.P) (k:=kz) (code:=.sliceAcap) (w:=w) hu;cases lo with
    |none=>
     simp only[jC]at hl;subst hl;simp[Instr.sliceBounds,z2,r1]
    |some y=>
     obtain⟨k,n,q1,q2⟩:=uP ilo (hop y (by simp[h,Op.operands]));simp only[jC,q1]at hl;subst hl;have:=run_sliceBound (P:=G.P) (k:=k) (code:=.sliceB) (w:=w) hll;simp[Instr.sliceBounds,z2,r1,q2,this]
  have hrun:(execOp ρ o).run G.P w=.ok (.value (.slice (if c=l.toNat then a else a.map (·.add (l.toNat*sz))) (u.toNat-l.toNat) (c-l.toNat))) w:=by
   have e2:∀w,(underlying T).run G.P w=.ok (.slice E) w:=λw=>run_underlying hT.und w;simp only[execOp,h,Instr.sliceAt,Instr.slice,h1,Sem.run_bind,e2,Result.andThen_ok,e1,hT.size,Sem.run_pure,Option.map_none]
  refine⟨_,hrun,?_⟩;simp only[Rep,aB];have hlx:((xs.take u.toNat).drop l.toNat).length=u.toNat-l.toNat:=by rw[List.length_drop,List.length_take];omega
  refine⟨_,c-l.toNat,by rw[hlx],by rw[hlx];omega,by omega,by simp,?_⟩;by_cases he:(xs.take u.toNat).drop l.toNat=[]
  ·exact .inl he
  ·right;have hlt:l.toNat<u.toNat:=by
    rcases Nat.lt_or_ge l.toNat u.toNat with q|q
    ·exact q
    ·exact absurd (List.eq_nil_of_length_eq_zero (by rw[hlx];omega)) he
   rcases h4 with rfl|⟨b,p,rfl,h4⟩
   ·simp at he
   ·refine⟨b,p+l.toNat*sz,?_,pE _ _ _ (λe hh=>hlen e (List.mem_of_mem_take hh)) (sF _ _ _ h4)⟩;rw[if_neg (by omega)];simp[dY]
end ops
end
end Go.Proofs.YtmnbolcmepihlaaGreat
