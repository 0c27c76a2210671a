/- Several texts in one. No condition but those that stand in each. -/
import Derived.Test.YtmnbolcmepihlaaGreatAA
import Derived.Sort.Grow
import Derived.Laws.StructEq
import Derived.Test.YtmnbolcmepihlaaGreatRows
import Derived.OwnWalk
import Derived.Lib.SliceRun
import Derived.Laws.BytesString
import Derived.Scope
import Derived.Below
import Derived.ChangeSame
import Derived.WideKeyArgs
import Derived.ProofKit
import Derived.LoopN
namespace Go.Proofs.YtmnbolcmepihlaaGreat
set_option linter.all false
open Go List
def an.find:an→Nat→Option W
 |[],_=>none
 |(k,v)::r,n=>bif Nat.beq k n then some v else an.find r n
def axL:∀{env:an} {t:Nat} {a:W},env.find t=some a→env.get t=a
 |[],_,_,h=>by simp[an.find]at h
 |(k,v)::r,t,a,h=>by
  simp only[an.find]at h;simp only[an.get];cases hk:Nat.beq k t<;>rw[hk]at h
  ·exact axL (env:=r) h
  ·simpa using h
def an.dg(env:an):Operand→Option W
 |.tmp t=>env.find t
 |.const (.int k n)=>some (.int k n)
 |.const (.bool b)=>some (.bool b)
 |.const (.string s)=>some (.str s)
 |.const (.slice none 0 0)=>some .dh
 |.const v=>some (mo v)
 |.func f=>some (.fn f [])
 |.global _=>none
def axo{env:an}{x:Operand}{a:W}(h:env.dg x=some a):env.ev x=a:=by
 unfold an.dg at h;split at h<;>first|exact axL h|(simp only[an.ev,mo];simpa using h)|(simp only[an.ev];simpa using h)|cases h
def an.qj(env:an):List Operand→Option (List W)
 |[]=>some []
 |x::r=>match env.dg x with
  |none=>none
  |some a=>match an.qj env r with
   |none=>none
   |some l=>some (a::l)
def axW{env:an}:∀{xs:List Operand} {l:List W},env.qj xs=some l→xs.map env.ev=l
 |[],l,h=>by simpa [an.qj]using h
 |x::r,l,h=>by
  simp only[an.qj]at h;cases h1:env.dg x with
  |none=>rw[h1]at h;cases h
  |some a=>
   rw[h1]at h;simp only at h;cases D:an.qj env r with
   |none=>rw[D]at h;cases h
   |some ob=>
    rw[D]at h;simp only[Option.some.injEq]at h;subst h;simp[axo h1,axW D]
def an.wK(env:an):List (Nat×Operand)→Option (List (Nat×W))
 |[]=>some []
 |(i,x)::r=>match env.dg x with
  |none=>none
  |some a=>match an.wK env r with
   |none=>none
   |some l=>some ((i,a)::l)
def ax4{env:an}:∀{xs:List (Nat×Operand)} {l:List (Nat×W)},env.wK xs=some l→xs.map (λp=>(p.1,env.ev p.2))=l
 |[],l,h=>by simpa [an.wK]using h
 |(i,x)::r,l,h=>by
  simp only[an.wK]at h;cases h1:env.dg x with
  |none=>rw[h1]at h;cases h
  |some a=>
   rw[h1]at h;simp only at h;cases D:an.wK env r with
   |none=>rw[D]at h;cases h
   |some ob=>
    rw[D]at h;simp only[Option.some.injEq]at h;subst h;simp[axo h1,ax4 D]
def el{α:Type}[Inhabited α](l:List α)(i:Int):α:=l.getD i.toNat default
def spine{α:Type}:List α→Option (List α)
 |[]=>some []
 |x::r=>match spine r with
  |none=>none
  |some l=>some (x::l)
def v2{α:Type}:∀{xs l:List α},spine xs=some l→xs=l
 |[],l,h=>by simpa [spine]using h
 |x::r,l,h=>by
  simp only[spine]at h;cases D:spine r with
  |none=>rw[D]at h;cases h
  |some ob=>
   rw[D]at h;simp only[Option.some.injEq]at h;rw[←h,v2 D]
def tP:W→Option (List W)
 |.agg cs=>spine cs
 |a=>some [a]
def Df{a:W}{cs:List W}(h:tP a=some cs):mY a=cs:=by
 unfold tP at h;split at h
 ·exact v2 h
 ·rename_i di;simp only[Option.some.injEq]at h;rw[←h];cases a<;>first|rfl|exact absurd rfl (di _)
def pY(ej:Bool)(n:Nat)(cs:List W):Option W:=
 match ej with
 |true=>match spine (cs.take n)with
  |none=>none
  |some l=>some (.agg l)
 |false=>match cs with
  |[]=>none
  |x::_=>some x
def HD{ej:Bool}{n:Nat}{cs:List W}{a:W}(h:pY ej n cs=some a):od ej n cs=a:=by
 cases ej with
 |true=>
  simp only[pY]at h;cases D:spine (cs.take n)with
  |none=>rw[D]at h;cases h
  |some l=>
   rw[D]at h;simp only[Option.some.injEq]at h;rw[←h,←v2 D];rfl
 |false=>
  cases cs with
  |nil=>simp[pY]at h
  |cons x r=>simp only[pY,Option.some.injEq]at h;rw[←h];rfl
def D1(g0:List (Nat×Nat))(cells:List W):List (Nat×W)→Option (List W)
 |[]=>spine cells
 |(i,a)::c2=>match g0[i]? with
  |none=>none
  |some (off,size)=>match tP a with
   |none=>none
   |some ca=>bif Nat.beq ca.length size&&Nat.ble (off+ca.length) cells.length&&a.flat then
     (match spine (iT cells off ca)with
     |none=>none
     |some l=>D1 g0 l c2)else none
def Tj(g0:List (Nat×Nat)):∀{parts:List (Nat×W)} {cells out:List W},D1 g0 cells parts=some out→zi g0 cells parts=some out
 |[],cells,out,h=>by simp only[D1]at h;simp only[zi];rw[v2 h]
 |(i,a)::c2,cells,out,h=>by
  simp only[D1]at h;simp only[zi];cases aK:g0[i]? with
  |none=>rw[aK]at h;cases h
  |some os=>
   obtain⟨off,size⟩:=os;rw[aK]at h;simp only at h ⊢;cases ah:tP a with
   |none=>rw[ah]at h;cases h
   |some ca=>
    rw[ah]at h;simp only at h;rw[Df ah];cases Y:(Nat.beq ca.length size&&Nat.ble (off+ca.length) cells.length&&a.flat)with
    |false=>rw[Y]at h;simp at h
    |true=>
     rw[Y]at h;simp only[cond_true]at h ⊢;cases Z:spine (iT cells off ca)with
     |none=>rw[Z]at h;cases h
     |some l=>
      rw[Z]at h;simp only at h;rw[v2 Z];exact Tj g0 h
def yU(sz:Nat):Nat→List (Nat×W)→Option (List (List W))
 |_,[]=>some []
 |k,(i,a)::r=>match tP a with
  |none=>none
  |some ca=>bif Nat.beq i k&&Nat.beq ca.length sz&&a.flat then
    (match yU sz (k+1) r with
    |none=>none
    |some l=>some (ca::l))else none
def Kv(sz:Nat):∀{parts:List (Nat×W)} {k:Nat} {out:List (List W)},yU sz k parts=some out→we sz k parts=some out
 |[],k,out,h=>by simpa [yU,we]using h
 |(i,a)::r,k,out,h=>by
  simp only[yU]at h;simp only[we];cases ah:tP a with
  |none=>rw[ah]at h;cases h
  |some ca=>
   rw[ah]at h;simp only at h;rw[Df ah];cases Y:(Nat.beq i k&&Nat.beq ca.length sz&&a.flat)with
   |false=>rw[Y]at h;simp at h
   |true=>
    rw[Y]at h;simp only[cond_true]at h ⊢;cases bc:yU sz (k+1) r with
    |none=>rw[bc]at h;cases h
    |some l=>
     rw[bc]at h;simp only[Option.some.injEq]at h;rw[Kv sz bc,←h];rfl
def vj(σ:ag):ag→Prop
 |[]=>True
 |(d,o)::r=>σ.get d=some o∧vj σ r
def vj.mem{σ:ag}:∀{σ2:ag},vj σ σ2→∀p∈σ2,σ.get p.1=some p.2
 |[],_,p,h=>by simp at h
 |(d,o)::r,h,p,aK=>by
  rcases mem_cons.1 aK with rfl|aK
  ·exact h.1
  ·exact vj.mem h.2 p aK
def Dy(σ:ag)(env:an):an→Prop
 |[]=>True
 |(k,v)::r=>jk σ (env.get k) v∧Dy σ env r
def Dy.mem{σ:ag}{env:an}:∀{eB:an},Dy σ env eB→∀p∈eB,jk σ (env.get p.1) p.2
 |[],_,p,h=>by simp at h
 |(d,o)::r,h,p,aK=>by
  rcases mem_cons.1 aK with rfl|aK
  ·exact h.1
  ·exact Dy.mem h.2 p aK
section rules
variable {G:c7}{env:an}{σ:ag}{Q:Exit→an→ag→Prop}{x y c:Code}
def ax8{eB:an}{σ2:ag}(he:Dy σ env eB)(Z:vj σ σ2):dr G env σ eB σ2:=dr.drop he.mem Z.mem
end rules
section steps
variable {G:c7}{ops:lp}{s:ll}{log:List (Nat×ei)}{i:Nat}{l:ei}{env:an}{σ:ag}{K:an→ag→Prop}{o:Oper}{bZ:W}
end steps
section ops
variable {G:c7}{o:Oper}{env:an}{σ:ag}{a:W}
def bM.alloc{T d:Nat}{zs:fK}{cs:List W}(h:o.op=.alloc T)(hz:∀w,∃z,(zeroValue T).run G.P w=.ok z w∧z.cells=zs.toArray)(ah:qL zs=cs)(hi:G.ids.contains d=false):
  Yields G o env.ev ((d,.cells T cs)::σ) [d] [d] (.ptr d 0):=by subst ah;exact b5.alloc h hz hi
def bM.box{T d:Nat}{x:Operand}{cs:List W}(h:o.op=.box T x)(u:env.dg x=some a)(bc:a.flat=true)(ah:tP a=some cs)(aC:a.refs (Nat.beq d)=false)(hi:G.ids.contains d=false):
  Yields G o env.ev ((d,.cells T cs)::σ) [d] [d] (.ptr d 0):=b5.box h (axo u) bc (Df ah) aC hi
def az2{T bl:TypeId}{x:Operand}{n d p:Nat}{ej:Bool}{cs:List W}(h:o.op=.load T x)(u:env.ev x=.ptr d p)(aR:dS G.P T n ej)(aa:σ.get d=some (.cells bl cs))(bA:(ej||Nat.blt 0 n)=true)(be:Nat.ble (p+n) cs.length=true)(aI:pY ej n (cs.drop p)=some a):
  Yields G o env.ev σ [] [d] a:=by rw[←HD aI];exact ayj h u aa aR bA be
def az4{T:TypeId}{x:Operand}{n:Nat}{ej:Bool}{cs:List W}(h:o.op=.load T x)(u:env.ev x=.gP cs)(aR:dS G.P T n ej)(bA:(ej||Nat.blt 0 n)=true)(be:Nat.ble n cs.length=true)(aI:pY ej n cs=some a):
  Yields G o env.ev σ [] [] a:=by rw[←HD aI];exact az1 h u aR bA be
def bM.build{T:TypeId}{parts:Array (Nat×Operand)}{zs:fK}{g0:List (Nat×Nat)}{ps:List (Nat×W)}{cs:List W}(h:o.op=.build T parts)(aR:lN G.P T zs g0)(aK:env.wK parts.toList=some ps)
  (bc:D1 g0 (qL zs) ps=some cs):Yields G o env.ev σ [] [] (.agg cs):=b5.build h aR (by rw[ax4 aK];exact Tj g0 bc)
def bM.makeFunc{f:FuncId}{aT:Array Operand}{l:List W}(h:o.op=.makeFunc (.func f) #[] aT)(aP:env.qj aT.toList=some l):Yields G o env.ev σ [] [] (.fn f l):=by
 rw[←axW aP];exact b5.makeFunc h
def bM.field{T f off n:Nat}{ej:Bool}{x:Operand}{cs:List W}(h:o.op=.field T x f)(u:env.ev x=.agg cs)(aR:g7 G.P T f off n ej)(be:Nat.ble (off+n) cs.length=true)(aI:pY ej n (cs.drop off)=some a):Yields G o env.ev σ [] [] a:=by
 rw[←HD aI];exact b5.field h u aR be
def bM.call{hH:Operand}{args:Array Operand}{k:Array TypeId}{f:FuncId}{aT dH ps:List W}{σs ey:ag}{r:W}(h:o.op=.call ⟨.value hH,args,k⟩)(bc:env.ev hH=.fn f aT)
  (qM:∀(args:jj) (w:World),(callFunc f args).run G.P w=.ok (.enter f args) w) (bI:dn G.P f ey dH r) (aK:env.qj args.toList=some ps) (aI:n9 σs (ps++aT) dH) (Z:vj σ σs) (ah:vj σs ey)
  (aC:r.closed=true) (rB:ey.clean (λd=>!(ey.ids++[]).contains d)=true):Yields G o env.ev σ [] σs.ids r:=
 b5.call h bc qM Z.mem (by rw[axW aK];exact aI) ah.mem bI aC rB
def ayG{hH:Operand}{args:Array Operand}{k:Array TypeId}{f:FuncId}{aT dH ps:List W}{ey:ag}{ih:W→ag→Prop}(news:ei)(h:o.op=.call ⟨.value hH,args,k⟩)(bc:env.ev hH=.fn f aT)
  (qM:∀(args:jj) (w:World),(callFunc f args).run G.P w=.ok (.enter f args) w) (bI:gZ G.P f ey dH ih) (aK:env.qj args.toList=some ps) (aI:n9 σ (ps++aT) dH) (Z:vj σ ey)
  (be:news.all (λd=>!G.ids.contains d&&(σ.get d).isNone)=true) (iQ:(σ.minus ey.ids).clean news.contains=true)
  (j3:∀r σ2,ih r σ2→r.refs (λd=>!(ey.ids++news).contains d)=false∧σ2.clean (λd=>!(ey.ids++news).contains d)=true) :
  hK G o env.ev σ (ey.ids++news) news (λr aL=>∃σ2,ih r σ2∧aL=σ2++σ.minus ey.ids):=
 fP.call news h bc qM Z.mem (by rw[axW aK];exact aI) bI be iQ j3
def az3{T bl d p n:Nat}{ej:Bool}{x y:Operand}{cs ca oR:List W}(h:o.op=.store T x y)(u:env.ev x=.ptr d p)(aR:dS G.P T n ej)(ak:env.dg y=some a)(aa:σ.get d=some (.cells bl cs))
  (bc:a.flat=true) (yt:tP a=some ca) (be:Nat.beq ca.length n=true) (aP:Nat.ble (p+n) cs.length=true) (Z:spine (iT cs p ca)=some oR) :
  hK G o env.ev σ [d] [] (λr aL=>r=.undef∧aL=σ.set d (.cells bl oR)):=by
 rw[←v2 Z,←Df yt];exact ayo h u (axo ak) aa aR.size bc (by rw[Df yt];simpa using be) (by simpa using aP)
def ME{n:Int}(h1 : -9223372036854775808≤n)(D:n≤9223372036854775807):JH .i64 n:=by
 unfold JH;rw[IntKind.wrap_i64];omega
def L3.tmp{t:Nat}{a:W}(h:env.find t=some a):qP G env σ (.tmp t) a:=by rw[←axL h];exact .tmp t
def L3.cell{a T d bl n:Nat}{ej:Bool}{cs:List W}{r:W}(aR:dS G.P T n ej)(aI:env.get a=.ptr d 0)(aa:σ.get d=some (.cells bl cs))(be:Nat.beq cs.length n=true)(bA:(ej||Nat.blt 0 n)=true)(aC:pY ej n cs=some r):qP G env σ (.cell a T) r:=by
 rw[←HD aC];exact .cell a T d bl n ej cs aI aa aR (by simpa using be) (λe=>by subst e;simpa using bA)
end ops
end Go.Proofs.YtmnbolcmepihlaaGreat
namespace Go.Proofs.YtmnbolcmepihlaaGreat
set_option linter.all false
open Go List
def axV:∀σ:ag,σ.freeze []=σ
 |[]=>rfl
 |(d,o)::r=>by simp[ag.freeze,axV r]
section
variable {G:c7}{env:an}{σ iZ:ag}{o:Oper}{ev:Operand→W}
def aeW{n:Int}(h1:0≤n)(D:n≤18446744073709551615):JH .u64 n:=by
 unfold JH;simp only[IntKind.wrap,IntKind.bits,IntKind.signed];simp;omega
end
end Go.Proofs.YtmnbolcmepihlaaGreat
namespace Go.Proofs.YtmnbolcmepihlaaGreat
set_option linter.all false
open Go List
def cH{α:Type}(l:List (Int×α))(n:Int):Option α:=(l.find? λp=>decide (p.1=n)).map (·.2)
def eG{α:Type}:List (Int×α)→Int→α→List (Int×α)
 |[],n,v=>[(n,v)]
 |p::r,n,v=>if p.1=n then(n,v)::r else p::eG r n v
def fh{α:Type}(k:IntKind)(enc:α→W)(l:List (Int×α)):List (W×W):=l.map λp=>(.int k p.1,enc p.2)
def GC{I:bP}{α:Type}{k:IntKind}{enc:α→W}(n:Int):∀(l:List (Int×α)) (es:oe) (i:Nat) (a:α),gm I (fh k enc l) es→cH l n=some a→
  ∃j v,Instr.findNow (.int k) (.int k n) es i=some (some (i+j,v))∧bk I (enc a) v∧∃e,es[j]?=some e∧e.key=.int k n∧
   ∀(b:α) (aq:Value) (jg:MapEntry→MapEntry),bk I (enc b) aq→(∀e,(jg e).key=.int k n∧(jg e).val=aq)→gm I (fh k enc (eG l n b)) (es.modify j jg)
 |[],es,i,a,h,bQ=>by simp[cH]at bQ
 |(m,b)::r,es,i,a,h,bQ=>by
  simp only[fh,map_cons,gm]at h;obtain⟨e,b8,rfl,h1,D,aj⟩:=h;simp only[bk]at h1;by_cases hm:m=n
  ·subst hm;simp only[cH,List.find?,decide_true,Option.map_some,Option.some.injEq]at bQ;subst bQ;refine⟨0,e.val,?_,D,e,rfl,h1,?_⟩
   ·simp[Instr.findNow,Instr.sameNow,h1]
   ·intro c aq jg cF hk;simp only[eG,if_pos,fh,map_cons,gm,modify_zero_cons];exact⟨jg e,b8,rfl,by simp only[bk];exact(hk e).1,by rw[(hk e).2];exact cF,aj⟩
  ·have uN:cH r n=some a:=by simpa [cH,List.find?,hm]using bQ
   obtain⟨j,v,ay,aG,dW,a1,aW,bt⟩:=GC n r b8 (i+1) a aj uN;refine⟨j+1,v,?_,aG,dW,by simpa using a1,aW,?_⟩
   ·simp only[Instr.findNow,Instr.sameNow,h1,if_pos];have:(n==m)=false:=by simpa using λe=>hm e.symm
    rw[this];simp only;rw[ay];simp[Nat.add_assoc,Nat.add_comm 1 j]
   ·intro c aq jg cF hk;simp only[eG,if_neg hm,fh,map_cons,gm,modify_succ_cons];exact⟨e,_,rfl,by simp only[bk];exact h1,D,bt c aq jg cF hk⟩
def Ku{I:bP}{α:Type}{k:IntKind}{enc:α→W}(n:Int):∀(l:List (Int×α)) (es:oe) (i:Nat),gm I (fh k enc l) es→cH l n=none→
  Instr.findNow (.int k) (.int k n) es i=some none∧∀(b:α) (e:MapEntry),bk I (enc b) e.val→e.key=.int k n→gm I (fh k enc (eG l n b)) (es++[e])
 |[],es,i,h,bQ=>by
  simp only[fh,map_nil,gm]at h;subst h;refine⟨rfl,λb e Y hk=>?_⟩;simp only[eG,fh,map_cons,map_nil,gm,nil_append];exact⟨e,[],rfl,by simp only[bk];exact hk,Y,rfl⟩
 |(m,c)::r,es,i,h,bQ=>by
  simp only[fh,map_cons,gm]at h;obtain⟨e,b8,rfl,h1,D,aj⟩:=h;simp only[bk]at h1;have hm:m≠n:=λhm=>by subst hm;simp[cH,List.find?]at bQ
  have uN:cH r n=none:=by simpa [cH,List.find?,hm]using bQ
  obtain⟨ay,aG⟩:=Ku n r b8 (i+1) aj uN;refine⟨?_,λb dW Y hk=>?_⟩
  ·simp only[Instr.findNow,Instr.sameNow,h1,if_pos];have:(n==m)=false:=by simpa using λe=>hm e.symm
   rw[this];exact ay
  ·simp only[eG,if_neg hm,fh,map_cons,gm,cons_append];exact⟨e,_,rfl,by simp only[bk];exact h1,D,aG b dW Y hk⟩
def aa6{I:bP}:∀(l:List (W×W)) (es:oe),gm I l es→es.length=l.length
 |[],es,h=>by simp only[gm]at h;subst h;rfl
 |(k,v)::r,es,h=>by
  simp only[gm]at h;obtain⟨e,b8,rfl,_,_,aj⟩:=h;simp[aa6 r b8 aj]
structure r2(P:Program)(T K E:TypeId)(k:IntKind):Prop where
 ia:P.underlying T=some (.map K E)
 key:P.underlying K=some (.int k)
section
variable {G:c7}{σ:ag}{o:Oper}{ev:Operand→W}
def b5.makeMap{T d:Nat}{K E:TypeId}(h:o.op=.makeMap T none)(hi:G.ids.contains d=false):Yields G o ev ((d,.map K E [])::σ) [d] [d] (.ep d):=by
 intro aL cx I β w bp cz aA hm hop;have gF:(execOp bp o).run G.P w=.ok (.value (.map (some w.heap.size))) (w.alloc (.map #[] 0)):=by
  simp[execOp,h,Instr.makeMap]
 rw[gF];have mK:=hm d (by simp);refine⟨I,iL β d (.map (some w.heap.size)),by simp only[aD];exact⟨by rw[h0],rfl⟩,?_,dc.refl I,λx u=>iJ β _ (λe=>u (by simp[e]))⟩;refine aA.real (by simpa using hi) mK rfl λaZ c5=>?_;rw[cz d (by simp),axp,if_pos rfl]at c5;injection c5 with c5
 subst c5;simp only[br,h0];exact .inr ⟨w.heap.size,#[],0,rfl,heap_alloc_new w _,rfl,λo=>aA.jS (Nat.le_refl _) o,.inl aA.size,by simp[k9]⟩
def Rw{G:c7}{cx:gj}{I:bP}{β:Nat→Value}{σ:ag}{w:World}(aA:cG G cx I β σ w){d:Nat}{K E:TypeId}{bO:List (W×W)}(aa:σ.get d=some (.map K E bO)){v:Value}(ai:aD I β (.ep d) v):
  ∃r es clock,v=.map (some r)∧β d=.map (some r)∧w.heap[r]?=some (.map es clock)∧gm I bO es.toList∧(∀o,I r o=none)∧Place cx r∧k9 es clock:=by
 simp only[aD]at ai;obtain⟨rfl,ai⟩:=ai;have:=aA.dK d _ aa;simp only[br]at this;rcases this with q|⟨r,es,clock,ay,aG,a1,aW,bt⟩
 ·rw[q]at ai;simp[nN]at ai
 ·exact⟨r,es,clock,ay,ay,aG,a1,aW,bt⟩
def q8{P:Program}{w:World}{r:Nat}{es:gx}{c:Nat}(h:w.heap[r]?=some (.map es c)):(getObj r).run P w=.ok (.map es c) w:=by simp[getObj,Sem.run,h]
def Q7{P:Program}{K:TypeId}{k:IntKind}(gE:P.underlying K=some (.int k))(e:Bool)(n:Int)(w:World):(Instr.checkKey e 10000 K (.int k n)).run P w=.ok () w:=by
 have e1:∀w,(underlying K).run P w=.ok (.int k) w:=λw=>by simp[underlying,program,Sem.run,gE]
 rw[Instr.checkKey];simp[e1]
def DK(I:bP)(w:World)(v:Value)(bO:List (W×W)):Prop:=∃r es clock,v=.map (some r)∧w.heap[r]?=some (.map es clock)∧gm I bO es.toList
def Rx{G:c7}{cx:gj}{I:bP}{β:Nat→Value}{σ:ag}{w:World}(aA:cG G cx I β σ w){d:Nat}{K E:TypeId}{bO:List (W×W)}(aa:σ.get d=some (.map K E bO)){v:Value}(ai:aD I β (.ep d) v):DK I w v bO:=by
 obtain⟨r,es,clock,i5,_,aG,a1,_⟩:=Rw aA aa ai;exact⟨r,es,clock,i5,aG,a1⟩
def Tk{G:c7}{cx:gj}{I:bP}{β:Nat→Value}{σ:ag}{w:World}(aA:cG G cx I β σ w){d:Nat}{es:gx}{clock:Nat}{K E:TypeId}{bO:List (W×W)}(aa:σ.get d=some (.ij es clock K E bO)){v:Value}(ai:aD I β (.ep d) v):DK I w v bO:=by
 simp only[aD]at ai;obtain⟨rfl,ai⟩:=ai;have:=aA.dK d _ aa;simp only[br]at this;rcases this with q|⟨r,ay,aG,a1,_⟩
 ·rw[q]at ai;simp[nN]at ai
 ·exact⟨r,es,clock,ay,aG,a1⟩
def Tl{G:c7}{cx:gj}{I:bP}{β:Nat→Value}{σ:ag}{w:World}(aA:cG G cx I β σ w){bO:List (W×W)}{v:Value}(ai:aD I β (.ec bO) v):DK I w v bO:=by
 simp only[aD,bk]at ai;obtain⟨r,es,clock,rfl,D,aj,_⟩:=ai;obtain⟨kJ,oQ,aV,b4⟩:=aA.iU r _ D;obtain⟨rfl,rfl⟩:=K0 b4;exact⟨r,es,clock,rfl,aV,aj⟩
def Ry{α:Type}{I:bP}{β:Nat→Value}{w:World}{bp:Operand→Value}{T K E:Nat}{k:IntKind}{x y:Operand}{ok:Bool}{n:Int}(l:List (Int×α))(enc:α→W)(z:α)(h:o.op=.lookup T x y ok)(h1:DK I w (bp x) (fh k enc l))(D:bp y=.int k n)
  (aR:r2 G.P T K E k) (hz:∀w,∃v,(zeroValue E).run G.P w=.ok v w∧∀I,bk I (enc z) v) :
  ∃v,(execOp bp o).run G.P w=.ok (.value v) w∧aD I β (bif ok then .dm [enc ((cH l n).getD z),.bool (cH l n).isSome]else enc ((cH l n).getD z)) v:=by
 obtain⟨r,es,clock,i5,aG,a1⟩:=h1;have e1:∀w,(underlying T).run G.P w=.ok (.map K E) w:=λw=>by simp[underlying,program,Sem.run,aR.ia]
 have e2:∀w,(underlying K).run G.P w=.ok (.int k) w:=λw=>by simp[underlying,program,Sem.run,aR.key]
 have bT:=q8 (P:=G.P) aG;have fG:=Q7 (P:=G.P) aR.key (es.isEmpty) n w;cases bQ:cH l n with
 |none=>
  obtain⟨cM,_⟩:=Ku n l es.toList 0 a1 bQ;obtain⟨v,kG,l8⟩:=hz w;have gy:(Instr.findKey K (.int k n) es.toList).run G.P w=.ok none w:=by simp[Instr.findKey,e2,cM]
  cases ok with
  |true=>
   refine⟨.tuple #[v,.bool false],by simp[execOp,h,Instr.lookup,i5,D,e1,bT,fG,gy,kG],?_⟩;simp only[cond_true,aD,cw];exact⟨_,rfl,v,[.bool false],rfl,bk.rep β _ _ (l8 I),.bool false,[],rfl,by simp[bk],rfl⟩
  |false=>
   refine⟨v,by simp[execOp,h,Instr.lookup,i5,D,e1,bT,fG,gy,kG],?_⟩;simp only[cond_false];exact bk.rep β _ _ (l8 I)
 |some a=>
  obtain⟨j,v,cM,dY,_⟩:=GC n l es.toList 0 a a1 bQ;have gy:(Instr.findKey K (.int k n) es.toList).run G.P w=.ok (some (0+j,v)) w:=by simp[Instr.findKey,e2,cM]
  cases ok with
  |true=>
   refine⟨.tuple #[v,.bool true],by simp[execOp,h,Instr.lookup,i5,D,e1,bT,fG,gy],?_⟩;simp only[cond_true,aD,cw];exact⟨_,rfl,v,[.bool true],rfl,bk.rep β _ _ dY,.bool true,[],rfl,by simp[bk],rfl⟩
  |false=>
   refine⟨v,by simp[execOp,h,Instr.lookup,i5,D,e1,bT,fG,gy],?_⟩;simp only[cond_false];exact bk.rep β _ _ dY
def b5.lookup{α:Type}{T K E d:Nat}{k:IntKind}{x y:Operand}{ok:Bool}{n:Int}(l:List (Int×α))(enc:α→W)(z:α)(h:o.op=.lookup T x y ok)(u:ev x=.ep d)(ak:ev y=.int k n)(aa:σ.get d=some (.map K E (fh k enc l)))
  (aR:r2 G.P T K E k) (hz:∀w,∃v,(zeroValue E).run G.P w=.ok v w∧∀I,bk I (enc z) v) :
  Yields G o ev σ [] [d] (bif ok then .dm [enc ((cH l n).getD z),.bool (cH l n).isSome]else enc ((cH l n).getD z)):=
 .pure λaL cx I β w bp cz aA hop=>by
  have h1:=hop x (by simp[h,Op.operands]);rw[u]at h1
  have D:=hop y (by simp[h,Op.operands]);rw[ak]at D;have D:=jT D
  exact Ry l enc z h (Rx aA (by rw[cz d (by simp)];exact aa) h1) D aR hz
def ayX{α:Type}{T K E:Nat}{k:IntKind}{x y:Operand}{ok:Bool}{n:Int}(l:List (Int×α))(enc:α→W)(z:α)(h:o.op=.lookup T x y ok)(u:ev x=.ec (fh k enc l))(ak:ev y=.int k n)
  (aR:r2 G.P T K E k) (hz:∀w,∃v,(zeroValue E).run G.P w=.ok v w∧∀I,bk I (enc z) v) :
  Yields G o ev σ [] [] (bif ok then .dm [enc ((cH l n).getD z),.bool (cH l n).isSome]else enc ((cH l n).getD z)):=
 .pure λaL cx I β w bp cz aA hop=>by
  have h1:=hop x (by simp[h,Op.operands]);rw[u]at h1
  have D:=hop y (by simp[h,Op.operands]);rw[ak]at D;have D:=jT D
  exact Ry l enc z h (Tl aA h1) D aR hz
def ado{α:Type}{I:bP}{β:Nat→Value}{w:World}{bp:Operand→Value}{T K E:Nat}{k:IntKind}{x:Operand}{jg}(l:List (Int×α))(enc:α→W)(h:o.op=.call ⟨.builtin .len,#[x],jg⟩)(hk:jg=#[T])(h1:DK I w (bp x) (fh k enc l))(aR:G.P.underlying T=some (.map K E)):
  ∃v,(execOp bp o).run G.P w=.ok (.value v) w∧aD I β (.int .i64 (l.length:Int)) v:=by
 subst hk;obtain⟨r,es,clock,i5,aG,a1⟩:=h1;have e1:∀w,(underlying T).run G.P w=.ok (.map K E) w:=λw=>by simp[underlying,program,Sem.run,aR]
 have bT:=q8 (P:=G.P) aG;have aP:=aa6 _ _ a1;simp only[Array.length_toList,fh,length_map]at aP;exact⟨.int .i64 l.length,by simp[execOp,h,resolve,invoke,builtin,Builtin.len_,i5,e1,bT,goInt,aP],by simp[aD,bk]⟩
def azo{α:Type}{T K E d:Nat}{k:IntKind}{x:Operand}{jg}(l:List (Int×α))(enc:α→W)(h:o.op=.call ⟨.builtin .len,#[x],jg⟩)(hk:jg=#[T])(u:ev x=.ep d)(aa:σ.get d=some (.map K E (fh k enc l)))(aR:G.P.underlying T=some (.map K E)):
  Yields G o ev σ [] [d] (.int .i64 (l.length:Int)):=
 .pure λaL cx I β w bp cz aA hop=>by
  have h1:=hop x (by simp[h,Op.operands,Call.operands]);rw[u]at h1
  exact ado l enc h hk (Rx aA (by rw[cz d (by simp)];exact aa) h1) aR
def k9.push{es:gx}{clock:Nat}(h:k9 es clock)(k v:Value):k9 (es.push ⟨k,v,clock⟩) (clock+1):=by
 obtain⟨h1,D⟩:=h;refine⟨?_,λx u=>?_⟩
 ·simp only[Array.toList_push,List.map_append,map_cons,map_nil];rw[nodup_append];refine⟨h1,by simp,λa aI b Y=>?_⟩;simp only[List.mem_singleton]at Y;obtain⟨x,u,rfl⟩:=List.mem_map.1 aI;have:=D x u;omega
 ·simp only[Array.toList_push,List.mem_append,List.mem_singleton]at u;rcases u with u|rfl
  ·have:=D x u;omega
  ·simp
def k9.modify{es:gx}{clock:Nat}(h:k9 es clock)(j:Nat)(f:MapEntry→MapEntry)(bc:∀e,(f e).born=e.born):k9 (es.modify j f) clock:=by
 obtain⟨h1,D⟩:=h;have e:(es.modify j f).toList.map (·.born)=es.toList.map (·.born):=by
  apply List.ext_getElem?;intro i;simp only[Array.toList_modify,List.getElem?_map,List.getElem?_modify];cases es.toList[i]? with
  |none=>simp
  |some x=>by_cases hi:j=i<;>simp[hi,bc]
 refine⟨by rw[e];exact h1,λx u=>?_⟩;have:x.born∈(es.modify j f).toList.map (·.born):=List.mem_map.2 ⟨x,u,rfl⟩;rw[e]at this;obtain⟨y,ak,n5⟩:=List.mem_map.1 this;rw[←n5];exact D y ak
def axM(w:World)(r:Nat)(o:Obj):hJ w {w with heap:=w.heap.setIfInBounds r o} r:=
 ⟨λk hk _=>by simp[Array.getElem?_setIfInBounds_ne (Ne.symm hk)],by simp,rfl,rfl,rfl,Nat.le_refl _⟩
def fP.mapUpdate{α:Type}{T K E d:Nat}{k:IntKind}{x y z:Operand}{n:Int}(l:List (Int×α))(enc:α→W)(v:α)(h:o.op=.mapUpdate T x y z∨o.op=.insert T x y z)(u:ev x=.ep d)(ak:ev y=.int k n)(hz:ev z=enc v)(ah:(enc v).closed=true)
  (aa:σ.get d=some (.map K E (fh k enc l))) (aR:r2 G.P T K E k) :
  hK G o ev σ [d] [] (λr aL=>r=.undef∧aL=σ.set d (.map K E (fh k enc (eG l n v)))):=by
 intro cx I β w bp aA hop;have kV:x∈o.op.operands∧y∈o.op.operands∧z∈o.op.operands:=by rcases h with h|h<;>simp[h,Op.operands]
 have h1:=hop x kV.1;rw[u]at h1
 have D:=hop y kV.2.1;rw[ak]at D;have D:=jT D
 have aj:=hop z kV.2.2;rw[hz]at aj
 have aj:=aD.closed _ _ ah aj;obtain⟨r,es,clock,i5,ay,aG,a1,aW,bt,b1⟩:=Rw aA aa h1;have e1:∀w,(underlying T).run G.P w=.ok (.map K E) w:=λw=>by simp[underlying,program,Sem.run,aR.ia]
 have e2:∀w,(underlying K).run G.P w=.ok (.int k) w:=λw=>by simp[underlying,program,Sem.run,aR.key]
 have bT:=q8 (P:=G.P) aG;have fG:=Q7 (P:=G.P) aR.key false n w
 have hj:∀aZ:Obj,(setObj r aZ).run G.P w=.ok () {w with heap:=w.heap.setIfInBounds r aZ}:=λaZ=>by
  have:=hZ aG;simp[setObj,Sem.run,aG]
 have xo:∃kJ oQ,(execOp bp o).run G.P w=.ok .skip {w with heap:=w.heap.setIfInBounds r (.map kJ oQ)}∧gm I (fh k enc (eG l n v)) kJ.toList∧k9 kJ oQ:=by
  cases bQ:cH l n with
  |none=>
   obtain⟨cM,dY⟩:=Ku n l es.toList 0 a1 bQ;have gy:(Instr.findKey K (.int k n) es.toList).run G.P w=.ok none w:=by simp[Instr.findKey,e2,cM]
   refine⟨_,_,by rcases h with h|h<;>simp[execOp,h,Instr.mapUpdate,i5,D,e1,bT,fG,gy,hj]<;>rfl,?_,?_⟩
   rotate_left
   ·exact b1.push _ _
   simpa using dY v ⟨.int k n,bp z,clock⟩ aj rfl
  |some a=>
   obtain⟨j,aq,cM,dY,dW,fJ,iy,nu⟩:=GC n l es.toList 0 a a1 bQ;have gy:(Instr.findKey K (.int k n) es.toList).run G.P w=.ok (some (0+j,aq)) w:=by simp[Instr.findKey,e2,cM]
   have g1:es[j]?=some dW:=by simpa using fJ
   have jN:(Instr.keyThatStays (.int k n) (.int k n)).run G.P w=.ok (.int k n) w:=by simp[Instr.keyThatStays,Instr.sameBits]
   refine⟨_,_,by rcases h with h|h<;>simp[execOp,h,Instr.mapUpdate,i5,D,e1,bT,fG,gy,hj,g1,iy,jN]<;>rfl,?_,?_⟩
   ·simpa using nu v (bp z) (λe=>{e with key:=.int k n,val:=bp z}) aj (λe=>⟨rfl,rfl⟩)
   ·exact b1.modify _ _ λ_=>rfl
 obtain⟨kJ,oQ,gF,iV,fq⟩:=xo;rw[gF];refine⟨.undef,_,I,β,⟨rfl,rfl⟩,by simp[aD,bk],?_,dc.refl I,λ_ _=>rfl,λx u=>by rw[axu,if_neg (by simpa using u)]⟩;have gw:cV (β d)=some r:=by rw[ay];rfl
 refine aA.turn (d:=d) (axM w r _) bt (λx u=>by rw[axu,if_neg u]) (λx u Z e=>aA.eN x d Z (by rw[aa];rfl) u r e (lF gw)) (dc.refl I) (λ_ _ _=>rfl)
  (λo v ai=>by rw[aW o]at ai;cases ai) (aW none) (λ_ _=>rfl) (.inr rfl) (h8.refl β) (.inl gw) λaZ c5=>?_
 rw[axu,if_pos rfl,aa]at c5;injection c5 with c5
 subst c5;simp only[br];exact .inr ⟨r,kJ,oQ,ay,by have:=hZ aG;simp[Array.getElem?_setIfInBounds,this],iV,aW,bt,fq⟩
def ay4{T:TypeId}{x y:Operand}{k:IntKind}{n:Int}{s:ByteArray}{b:UInt8}(h:o.op=.index T x y)(u:ev x=.str s)(ak:ev y=.int k n)(aR:G.P.underlying T=some .string)(be:0≤n)(Y:s[n.toNat]?=some b):
  Yields G o ev σ [] [] (.int .u8 (b.toNat:Int)):=
 .pure λaL cx I β w bp cz aA hop=>by
  have h1:=hop x (by simp[h,Op.operands]);rw[u]at h1;simp only[aD,bk]at h1
  have D:=hop y (by simp[h,Op.operands]);rw[ak]at D;have D:=jT D
  have e1:∀w,(underlying T).run G.P w=.ok .string w:=λw=>by simp[underlying,program,Sem.run,aR]
  exact⟨.int .u8 b.toNat,by simp[execOp,h,Instr.index,h1,D,asIntOf,e1,be,Y],by simp[aD,bk]⟩
end
end Go.Proofs.YtmnbolcmepihlaaGreat
namespace Go.Proofs.YtmnbolcmepihlaaGreat
set_option linter.all false
open Go Go.Sort List
abbrev Tm(P:Program)(f:FuncId):Prop:=∀(cV off aT:Nat) (zs:cN) (w:World),Holds (Value.int .i64) w cV off zs.toArray→cV<w.heap.size→zs.length<4611686018427387904→
  Calls P f #[.slice (some ⟨cV,off,none⟩) zs.length aT] w λe w'=>
   e=.returned (.tuple #[])∧∃n os,w'=grow (putRow (Value.int .i64) (Go.Sort.ahead w n) cV off (zs.mergeSort λx y=>decide (x≤y)).toArray) os
def encI(n:Int):List W:=[.int .i64 n]
def zV(x:Int):cN→cN
 |[]=>[x]
 |y::r=>if x≤y then x::y::r else y::zV x r
def mL:cN→cN
 |[]=>[]
 |x::r=>zV x (mL r)
def RK(x:Int):∀l:cN,(zV x l).Perm (x::l)
 |[]=>List.Perm.refl _
 |y::r=>by
  simp only[zV];split
  ·exact List.Perm.refl _
  ·exact((RK x r).cons y).trans (List.Perm.swap x y r)
def GQ:∀l:cN,(mL l).Perm l
 |[]=>List.Perm.refl _
 |x::r=>(RK x (mL r)).trans ((GQ r).cons x)
def aa7(x:Int):∀l:cN,l.Pairwise (·≤·)→(zV x l).Pairwise (·≤·)
 |[],_=>by simp[zV]
 |y::r,h=>by
  simp only[zV];rw[pairwise_cons]at h;split
  ·rename_i u;rw[pairwise_cons];refine⟨λz hz=>?_,pairwise_cons.2 h⟩;rcases mem_cons.1 hz with rfl|hz
   ·exact u
   ·exact Int.le_trans u (h.1 z hz)
  ·rename_i u;rw[pairwise_cons];refine⟨λz hz=>?_,aa7 x r h.2⟩;rcases mem_cons.1 ((RK x r).mem_iff.1 hz)with rfl|hz
   ·omega
   ·exact h.1 z hz
def Rk:∀l:cN,(mL l).Pairwise (·≤·)
 |[]=>Pairwise.nil
 |x::r=>aa7 x _ (Rk r)
def aaB:∀{l ob:cN},l.Perm ob→l.Pairwise (·≤·)→ob.Pairwise (·≤·)→l=ob
 |[],ob,h,_,_=>by simpa using h.symm
 |x::r,[],h,_,_=>by simpa using h
 |x::r,y::s,h,h1,D=>by
  rw[pairwise_cons]at h1 D;have n5:x=y:=by
   have g6:x∈y::s:=h.mem_iff.1 (by simp);have a2:y∈x::r:=h.mem_iff.2 (by simp);have dI:y≤x:=by
    rcases mem_cons.1 g6 with rfl|g6
    ·exact Int.le_refl _
    ·exact D.1 x g6
   have ek:x≤y:=by
    rcases mem_cons.1 a2 with rfl|a2
    ·exact Int.le_refl _
    ·exact h1.1 y a2
   omega
  subst n5;rw[aaB (List.Perm.cons_inv h) h1.2 D.2]
def abM(zs:cN):(zs.mergeSort λx y=>decide (x≤y))=mL zs:=by
 refine aaB ((List.mergeSort_perm zs _).trans (GQ zs).symm) ?_ (Rk zs);have:=List.pairwise_mergeSort (le:=λx y:Int=>decide (x≤y)) (λa b c h1 D=>by simp at h1 D ⊢;omega) (λa b=>by simp;omega) zs;exact this.imp (λh=>by simpa using h)
def abN(zs:cN):(mL zs).length=zs.length:=(GQ zs).length_eq
def KT{I:bP}:∀(zs:cN) (vs:fK),cD I (zs.map encI).flatten vs↔vs=zs.map (Value.int .i64)
 |[],vs=>by simp[cD]
 |z::r,vs=>by
  simp only[map_cons,flatten_cons,encI,singleton_append,cD,bk];constructor
  ·rintro⟨aq,b8,rfl,rfl,h⟩;rw[(KT r b8).1 h]
  ·rintro rfl;exact⟨_,_,rfl,rfl,(KT r _).2 rfl⟩
def ab1{P:Program}{f:FuncId}(Z:Tm P f)(be:gZ P f [] [.dh] (λr aL=>r=.dm []∧aL=[])){d T:Nat}(zs:cN)(hz:zs.length<4611686018427387904):
    gZ P f [(d,.slice T 1 (zs.map encI) 0 false)] [.own d] (λr aL=>r=.dm []∧aL=[(d,.slice T 1 ((mL zs).map encI) 0 false)]):=by
  intro cx w I β vs aA aC;simp only[cw]at aC;obtain⟨aq,b8,rfl,aC,rfl⟩:=aC;have aa:ag.get [(d,c4.slice T 1 (zs.map encI) 0 false)] d=some (.slice T 1 (zs.map encI) 0 false):=by rw[axp,if_pos rfl]
  have ar:=aA.dK d _ aa;simp only[aD]at aC;obtain⟨rfl,aC⟩:=aC;simp only[br,length_map]at ar;rcases ar with q|⟨q,aG,_⟩|⟨b,aT,arr,ay,aG,a1,aW,bt,b1,cE,dA,ef,eY,gb⟩
  · rw[q]at aC;simp[jX]at aC
  · have yH:zs=[]:=by simpa using aG
    subst yH;have apr:cG ⟨P,0,ag.ids []⟩ cx I β [] w:={aA with dK:=λx o h=>by simp[ag.get]at h,eN:=λx y h=>by simp[ag.get]at h,keep:=λx h=>by simp[ag.ids]at h};refine Calls.mono (be cx w I β [β d] apr (by simp only[cw,aD,bk];exact⟨_,_,rfl,q,rfl⟩)) ?_;rintro e w' ⟨v,rfl,r,aL,bm,β',⟨rfl,rfl⟩,h1,D⟩;refine⟨v,rfl,.dm [],[(d,.slice T 1 [] 0 false)],bm,β,⟨rfl,by simp[mL]⟩,?_,?_⟩
    · simp only[aD,cw]at h1 ⊢;exact h1
    · exact{D with
        dK:=λx o h=>by
          rw[axp]at h;split at h
          · rename_i e;subst e;injection h with h;subst h
            simp only[br];exact .inr (.inl ⟨q,trivial,trivial⟩)
          · simp[ag.get]at h
        eN:=λx y u ak di b Y h5=>by
          rw[axp]at u ak;split at u
          · rename_i e;subst e
            split at ak
            · rename_i dW;exact di dW
            · simp[ag.get]at ak
          · simp[ag.get]at u
        keep:=aA.keep}
  · simp only[Nat.mul_one]at bt b1
    have nh:arr.toList.take zs.length=zs.map (Value.int .i64):=(KT zs _).1 b1
    have nQ:∀j,j<zs.length→arr[j]?=some (Value.int .i64 (zs[j]?.getD default)):=λj aY=>by
      have:=congrArg (·[j]?) nh;simp only[getElem?_take,if_pos aY,Array.getElem?_toList,List.getElem?_map]at this;rw[this,List.getElem?_eq_getElem aY];rfl
    have uE:Holds (Value.int .i64) w b 0 zs.toArray:=λj aY=>by
      have aY:j<zs.length:=by simpa using aY
      constructor
      · simp only[World.cell?,aW,Nat.zero_add]
        rw[nQ j aY];simp[aY]
      · simp[World.frozen?,aW]
    have cq:=hZ aW;have ah:=Z b 0 aT zs w uE cq hz;rw[ay];refine Calls.mono ah ?_;rintro e w' ⟨rfl,n,os,rfl⟩;rw[abM];have j4:(mL zs).length=zs.length:=abN zs;have Px:(grow (putRow (Value.int .i64) (Go.Sort.ahead w n) b 0 (mL zs).toArray) os).heap[b]?=some (.cells (putCells (Value.int .i64) 0 (mL zs).toArray arr) T (0,0)):=by
      simp only[grow,putRow,mapBlock,Go.Sort.ahead];rw[Array.getElem?_append_left (by simpa using cq),Array.getElem?_modify,if_pos rfl,aW];rfl
    have Nu:(putCells (Value.int .i64) 0 (mL zs).toArray arr).toList.take (mL zs).length=(mL zs).map (Value.int .i64):=by
      apply List.ext_getElem?;intro j;rw[getElem?_take,List.getElem?_map];split
      · rename_i aY
        have h6:j<arr.size:=by omega
        rw[Array.getElem?_toList];simp only[putCells,Array.getElem?_mapIdx];rw[Array.getElem?_eq_getElem h6];simp[aY]
      · rename_i aY
        rw[List.getElem?_eq_none (by omega)];rfl
    refine⟨.tuple #[],rfl,.dm [],_,I,β,⟨rfl,rfl⟩,by simp only[aD,cw];exact⟨_,rfl,rfl⟩,?_⟩;refine cG.turn (b:=b) (d:=d) aA ⟨λk hk cq=>?_,by simp[grow,putRow,mapBlock,Go.Sort.ahead],rfl,rfl,rfl,by simp[grow,putRow,mapBlock,Go.Sort.ahead]⟩ gb (λx u=>?_) (λx u h _=>?_) (dc.refl I) (λ_ _ _=>rfl) (λo v ai=>?_) (aA.uZ aW) (λ_ _=>rfl) (.inr rfl) (h8.refl β) (.inl (by rw[ay];rfl)) (λaZ c5=>?_)
    · simp only[grow,putRow,mapBlock,Go.Sort.ahead]
      rw[Array.getElem?_append_left (by simpa using cq),Array.getElem?_modify,if_neg (λe=>hk e.symm)]
    · rw[axp,axp,if_neg (Ne.symm u),if_neg (Ne.symm u)]
    · rw[axp,if_neg (Ne.symm u)]at h;simp[ag.get]at h
    · rw[eY o (by omega)]at ai;cases ai
    · rw[axp,if_pos rfl]at c5
      injection c5 with c5
      subst c5;simp only[br,length_map];refine .inr (.inr ⟨b,aT,_,by rw[ay,j4],by omega,a1,Px,by simpa [putCells]using bt,?_,?_,by omega,?_,?_,gb⟩)
      · rw[Nat.mul_one];exact(KT _ _).2 Nu
      · intro e he;obtain⟨x,_,rfl⟩:=List.mem_map.1 he;rfl
      · intro h;cases h
      · intro o _;exact eY o (by omega)
end Go.Proofs.YtmnbolcmepihlaaGreat
namespace Go.Proofs.YtmnbolcmepihlaaGreat
set_option linter.all false
open Go List
mutual
def W.MF{r s:Nat→Nat}(h:∀x,s (r x)=x):∀a:W,(a.dG r).dG s=a
 |.ig|.undef|.int _ _|.bool _|.str _|.bf _ _|.gP _|.dh|.og|.h9 _ _|.l7|.ec _|.arr _=>rfl
 |.agg cs=>by simp only[W.dG,Dp h cs]
 |.dm cs=>by simp only[W.dG,Dp h cs]
 |.fn _ cs=>by simp only[W.dG,Dp h cs]
 |.own d=>by simp only[W.dG,h d]
 |.ptr d _=>by simp only[W.dG,h d]
 |.fH _ d=>by simp only[W.dG,h d]
 |.ep d=>by simp only[W.dG,h d]
def Dp{r s:Nat→Nat}(h:∀x,s (r x)=x):∀l:List W,r0 s (r0 r l)=l
 |[]=>rfl
 |x::t=>by simp only[r0,W.MF h x,Dp h t]
end
def ax2{r s:Nat→Nat}(h:∀x,s (r x)=x):∀(σ:ag) (d:Nat),(σ.dG r).get (r d)=(σ.get d).map (·.dG r)
 |[],d=>rfl
 |(k,v)::t,d=>by
  have:=ax2 h t d;simp only[ag.dG]at this ⊢;simp only[map_cons,axp];by_cases hk:k=d
  ·subst hk;simp
  ·have:r k≠r d:=λe=>hk (by rw[←h k,←h d,e]);simp only[hk,this,if_false];assumption
def ayB(r:Nat→Nat)(σ:ag):(σ.dG r).ids=σ.ids.map r:=by simp[ag.ids,ag.dG]
def br.dG{cx:gj}{I:bP}{β β':Nat→Value}{w:World}{r:Nat→Nat}(Y:∀d,β' (r d)=β d){d:Nat}{o:c4}{q4:gj}(ah:∀b,Place cx b→Place q4 b)(h:br cx I β w d o):br q4 I β' w (r d) (o.dG r):=by
 cases o with
 |cells T cs=>
  simp only[br,c4.dG,Y]at h ⊢;rcases h with q|⟨b,arr,e1,e2,bT,fG,gy⟩
  ·exact .inl q
  ·exact .inr ⟨b,arr,e1,e2,Ba (p:=λ_=>false) (λd _=>Y d) cs _ (yL (λ_=>rfl) cs) bT,fG,ah _ gy⟩
 |slice T sz xs k dO=>
  simp only[br,c4.dG,Y]at h ⊢;rcases h with q|q|⟨b,aT,arr,ay,aG,a1,aW,bt,b1,cE,dA,ef,eY,gb⟩
  ·exact .inl q
  ·exact .inr (.inl q)
  ·exact .inr (.inr ⟨b,aT,arr,ay,aG,a1,aW,bt,b1,cE,dA,ef,eY,ah _ gb⟩)
 |win T sz xs=>
  simp only[br,c4.dG,Y]at h ⊢;rcases h with q|q|⟨b,hP,aT,arr,ay,aG,a1,aW,bt,b1,cE,dA,ef⟩
  ·exact .inl q
  ·exact .inr (.inl q)
  ·exact .inr (.inr ⟨b,hP,aT,arr,ay,aG,a1,aW,bt,b1,cE,dA,ah _ ef⟩)
 |map K E bO=>
  simp only[br,c4.dG,Y]at h ⊢;rcases h with q|⟨b,es,c,ay,aG,a1,aW,bt,b1⟩
  ·exact .inl q
  ·exact .inr ⟨b,es,c,ay,aG,a1,aW,ah _ bt,b1⟩
 |mO K E bO=>
  simp only[br,c4.dG,Y]at h ⊢;rcases h with q|⟨b,es,c,ay,aG,a1,bt,b1⟩
  ·exact .inl q
  ·exact .inr ⟨b,es,c,ay,aG,a1,ah _ bt,b1⟩
 |ij es clock K E bO=>
  simp only[br,c4.dG,Y]at h ⊢;rcases h with q|⟨b,ay,aG,a1,aW,bt,b1⟩
  ·exact .inl q
  ·exact .inr ⟨b,ay,aG,a1,aW,ah _ bt,b1⟩
 |iter gV r9 mc seen=>
  simp only[br,c4.dG,Y]at h ⊢;rcases h with q|⟨b,ha,ay,aG,a1,aW,bt⟩
  ·exact .inl q
  ·exact .inr ⟨b,ha,ay,aG,a1,aW,ah _ bt⟩
 |hdr gV n=>simpa only[br,c4.dG,Y]using h
 |cO dy=>
  simp only[br,c4.dG,Y]at h ⊢;rcases h with q|⟨Z,ay,aG⟩
  ·exact .inl q
  ·exact .inr ⟨Z,ay,aG.go (dc.refl I) λb _=>⟨λ_=>rfl,λ_=>rfl,ah b⟩⟩
 |ic T xs t=>
  simp only[br,c4.dG,Y]at h ⊢;rcases h with q|⟨aX,aT,arr,ay,aG,a1,aW,bt,b1,cE,dA,ef,eY,gb⟩
  ·exact .inl q
  ·exact .inr ⟨aX,aT,arr,ay,aG,a1,aW,bt,b1,cE,dA,ef,eY,ah _ gb⟩
 |vec T xs=>
  simp only[br,c4.dG,Y]at h ⊢;rcases h with q|⟨aX,arr,ay,aG,a1,aW,bt⟩
  ·exact .inl q
  ·exact .inr ⟨aX,arr,ay,aG,a1,aW,ah _ bt⟩
 |jd es clock bO seen=>
  simp only[br,c4.dG,Y]at h ⊢;rcases h with q|⟨r',ha,ay,aG,a1,aW,bt,b1,cE⟩
  ·exact .inl q
  ·exact .inr ⟨r',ha,ay,aG,a1,aW,bt,b1,ah _ cE⟩
 |e5 T e n gI=>
  have ct:∀Z dU,lz β' Z dU (r1 r gI)↔lz β Z dU gI:=λZ dU=>by
   cases gI with
   |none=>exact Iff.rfl
   |some q=>obtain⟨i,t⟩:=q;cases i<;>simp only[lz,r1,Y]
  simp only[br,c4.dG,Y,ct]at h ⊢;rcases h with q|⟨aX,aT,arr,Z,ay,aG,a1,aW,bt,b1,cE,dA,ef,eY⟩
  ·exact .inl q
  ·exact .inr ⟨aX,aT,arr,Z,ay,aG,a1,aW,bt,b1,cE,dA,ef,ah _ eY⟩
 |nO K E e mu gI fx=>
  have ct:∀Z dU,lz β' Z dU (r1 r gI)↔lz β Z dU gI:=λZ dU=>by
   cases gI with
   |none=>exact Iff.rfl
   |some q=>obtain⟨i,t⟩:=q;cases i<;>simp only[lz,r1,Y]
  simp only[br,c4.dG,Y,ct]at h ⊢;rcases h with q|⟨r,es,clock,Z,dU,ay,aG,a1,aW,bt,b1,cE,dA⟩
  ·exact .inl q
  ·exact .inr ⟨r,es,clock,Z,dU,ay,aG,a1,aW,bt,b1,ah _ cE,dA⟩
def az5{r s:Nat→Nat}(h:∀x,s (r x)=x):∀o:c4,(o.dG r).dG s=o
 |.cells T cs=>by simp only[c4.dG,Dp h cs]
 |.slice ..=>rfl
 |.map ..=>rfl
 |.win ..=>rfl
 |.mO ..=>rfl
 |.ij ..=>rfl
 |.iter gV _ _ _=>by simp only[c4.dG,h gV]
 |.hdr gV _=>by simp only[c4.dG,h gV]
 |.cO ..=>rfl
 |.ic T xs t=>by simp only[c4.dG,h t]
 |.jd ..=>rfl
 |.vec ..=>rfl
 |.e5 T e n none=>by simp only[c4.dG,r1,h e]
 |.e5 T e n (some (i,t))=>by simp only[c4.dG,r1,h e,h t]
 |.nO K E e mu none fx=>by simp only[c4.dG,r1,h e]
 |.nO K E e mu (some (i,t)) fx=>by simp only[c4.dG,r1,h e,h t]
def gZ.dG{P:Program}{f:FuncId}{iZ:ag}{args:List W}{ih:W→ag→Prop}(h:gZ P f iZ args ih)(r s:Nat→Nat)(rI:∀x,s (r x)=x)(oD:∀x,r (s x)=x):
    gZ P f (iZ.dG r) (r0 r args) (λa aL=>∃a0 pn,ih a0 pn∧a=a0.dG r∧aL=pn.dG r):=by
  intro cx w I β vs aA aC;have gi:∀x y,r x=r y→x=y:=λx y e=>by rw[←rI x,←rI y,e]
  have lM:cG ⟨P,0,iZ.ids⟩ {cx with x3:=λx=>cx.x3 (r x)} I (λx=>β (r x)) iZ w:=
    {good:=aA.good,iU:=aA.iU,ku:=aA.ku,jY:=aA.jY,frame:=aA.frame,size:=aA.size,tape:=aA.tape,os:=aA.os,output:=aA.output,drawn:=aA.drawn
     dK:=λd o aa=>by
        have h1:=aA.dK (r d) (o.dG r) (by rw[ax2 rI,aa];rfl);have D:=br.dG (cx:=cx) (r:=s) (β:=β) (β':=λx=>β (r x)) (λx=>by show β (r (s x))=β x;rw[oD]) (q4:={cx with x3:=λx=>cx.x3 (r x)}) (λb Y=>Y) h1
        rwa [rI,az5 rI]at D
     eN:=λd fT aa eC di b Y=>aA.eN (r d) (r fT) (by rw[ax2 rI];simpa using aa) (by rw[ax2 rI];simpa using eC) (λe=>di (gi _ _ e)) b Y
     keep:=λd aa=>aA.keep (r d) (by show r d∈(iZ.dG r).ids;rw[ayB];exact List.mem_map_of_mem aa)}
  have sB:cw I (λx=>β (r x)) args vs:=by
    have:=Ba (r:=s) (β':=λx=>β (r x)) (p:=λ_=>false) (λx _=>by show β (r (s x))=β x;rw[oD]) (r0 r args) vs (yL (λ_=>rfl) _) aC
    rwa [Dp rI]at this
  refine Calls.mono (h _ w I _ vs lM sB) ?_;rintro e w' ⟨v,rfl,a,aL,bm,β',aK,jx,gz⟩;refine⟨v,rfl,a.dG r,aL.dG r,bm,λx=>β' (s x),⟨a,aL,aK,rfl,rfl⟩,MA (r:=r) (p:=λ_=>false) (λx _=>by show β' (s (r x))=β' x;rw[rI]) a v (RJ (λ_=>rfl) a) jx,?_⟩
  have nQ:∀d,(aL.dG r).get d=(aL.get (s d)).map (·.dG r):=λd=>by
    have:=ax2 rI aL (s d)
    rwa [oD]at this
  exact{good:=gz.good,iU:=gz.iU,ku:=gz.ku,jY:=gz.jY,frame:=gz.frame,size:=gz.size,tape:=gz.tape,os:=gz.os,output:=gz.output,drawn:=gz.drawn
        dK:=λd o aa=>by
            rw[nQ]at aa;obtain⟨o0,bA,rfl⟩:=Option.map_eq_some_iff.1 aa;have:=br.dG (cx:={cx with x3:=λx=>cx.x3 (r x)}) (r:=r) (β:=β') (β':=λx=>β' (s x)) (λx=>by show β' (s (r x))=β' x;rw[rI]) (q4:=cx) (λb Y=>Y) (gz.dK (s d) o0 bA)
            rwa [oD]at this
        eN:=λd fT aa eC di b Y=>by
            rw[nQ]at aa eC;exact gz.eN (s d) (s fT) (by simpa using aa) (by simpa using eC) (λe=>di (by rw[←oD d,←oD fT,e])) b Y
        keep:=λd aa=>by
            have:s d∈iZ.ids:=by
              have aa:d∈(iZ.dG r).ids:=aa;rw[ayB]at aa;obtain⟨x,u,rfl⟩:=List.mem_map.1 aa;rw[rI];exact u
            have:=gz.keep (s d) this;show β' (s d)=_;rw[this];show cx.x3 (r (s d))=_;rw[oD]}
def swp(a b x:Nat):Nat:=bif Nat.beq x a then b else bif Nat.beq x b then a else x
def Ux(a b x:Nat):swp a b (swp a b x)=x:=by
 have e:∀aq v:Nat,Nat.beq aq v=decide (aq=v):=λaq v=>by rw[Bool.eq_iff_iff];simp
 simp only[swp,e];by_cases h1:x=a
 ·subst h1;by_cases D:b=x
  ·subst D;simp
  ·simp[D]
 ·by_cases D:x=b
  ·subst D;simp[h1]
  ·simp[h1,D]
def r3:List (Nat×Nat)→Nat→Nat
 |[],x=>x
 |(a,b)::r,x=>swp a b (r3 r x)
def D2:List (Nat×Nat)→Nat→Nat
 |[],x=>x
 |(a,b)::r,x=>D2 r (swp a b x)
def Tn:∀(l:List (Nat×Nat)) (x:Nat),D2 l (r3 l x)=x
 |[],x=>rfl
 |(a,b)::r,x=>by simp only[r3,D2,Ux,Tn r]
def SY:∀(l:List (Nat×Nat)) (x:Nat),r3 l (D2 l x)=x
 |[],x=>rfl
 |(a,b)::r,x=>by simp only[r3,D2,SY r,Ux]
def gZ.at{P:Program}{f:FuncId}{iZ:ag}{args:List W}{ih:W→ag→Prop}(h:gZ P f iZ args ih)(l:List (Nat×Nat)):
  gZ P f (iZ.dG (r3 l)) (r0 (r3 l) args) (λa aL=>∃a0 pn,ih a0 pn∧a=a0.dG (r3 l)∧aL=pn.dG (r3 l)):=
 h.dG (r3 l) (D2 l) (Tn l) (SY l)
def SZ{I:bP}{β β':Nat→Value}{b:W}{post:List W}:∀(pre:List W) (vs:fK) {a:W},cw I β (pre++a::post) vs→(∀x v,x∈pre∨x∈post→aD I β x v→aD I β' x v)→(∀v,aD I β a v→aD I β' b v)→cw I β' (pre++b::post) vs
 |[],vs,a,h,h1,D=>by
  simp only[nil_append,cw]at h ⊢;obtain⟨aq,b8,rfl,ay,aG⟩:=h;have key:∀(l:List W) (vs:fK),(∀x∈l,x∈post)→cw I β l vs→cw I β' l vs:=by
   intro l;induction l with
   |nil=>intro _ _ h;exact h
   |cons x r bX=>
    intro vs hm h;simp only[cw]at h ⊢;obtain⟨aq,b8,rfl,cM,dY⟩:=h;exact⟨aq,b8,rfl,h1 x aq (.inr (hm x (by simp))) cM,bX b8 (λy ak=>hm y (by simp[ak])) dY⟩
  exact⟨aq,b8,rfl,D aq ay,key post b8 (λx u=>u) aG⟩
 |x::r,vs,a,h,h1,D=>by
  simp only[cons_append,cw]at h ⊢;obtain⟨aq,b8,rfl,ay,aG⟩:=h;exact⟨aq,b8,rfl,h1 x aq (.inl (by simp)) ay,SZ r b8 aG (λy v ak=>h1 y v (ak.imp (λh=>by simp[h]) id)) D⟩
def S0{p:Nat→Bool}:∀{l:List W},pU p l=false→∀x∈l,x.refs p=false
 |[],_,x,h=>by simp at h
 |y::r,h,x,u=>by
  simp only[pU,Bool.or_eq_false_iff]at h;rcases mem_cons.1 u with rfl|u
  ·exact h.1
  ·exact S0 h.2 x u
def azz{G:c7}{env:an}{σ:ag}(d0 d:Nat)(T:TypeId)(sz:Nat)(bb:TypeId)(pre post:List W)(bA:σ.get d0=some (.cells bb (pre++.dh::post)))(di:Nat.beq d0 d=false)(hi:G.ids.contains d=false)(ah:env.clean (Nat.beq d)=true)(Z:σ.clean (Nat.beq d)=true):
  dr G env σ env ((d,.slice T sz [] 0 false)::σ.set d0 (.cells bb (pre++.own d::post))):=λcx I β a w h dw=>by
 let β':Nat→Value:=λx=>if x=d then .slice none 0 0 else β x
 have di:d0≠d:=λe=>by subst e;simp at di
 have Y:∀x,Nat.beq d x=false→β' x=β x:=λx u=>by
  have:x≠d:=λe=>by subst e;simp at u
  show(if x=d then _ else β x)=_;rw[if_neg this]
 have gw:β' d=.slice none 0 0:=by show(if d=d then _ else _)=_;rw[if_pos rfl]
 have hj:∀x,x≠d→ag.get ((d,.slice T sz [] 0 false)::σ.set d0 (.cells bb (pre++.own d::post))) x=if x=d0 then some (.cells bb (pre++.own d::post))else σ.get x:=λx u=>by
  rw[axp,if_neg (Ne.symm u),axu,bA];rfl
 have Zc:∀x,x≠d→(ag.get ((d,.slice T sz [] 0 false)::σ.set d0 (.cells bb (pre++.own d::post))) x).isSome→(σ.get x).isSome:=λx u Z=>by
  rw[hj x u]at Z;split at Z
  ·rename_i e;subst e;rw[bA];rfl
  ·exact Z
 refine⟨I,β',{h with dK:=λx o e=>?_,eN:=λx y ex yf n5 b=>?_,keep:=λx u=>?_},λaq=>?_⟩
 ·by_cases u:x=d
  ·subst u;rw[axp,if_pos rfl]at e;cases e;simp only[br,gw];exact .inr (.inl ⟨trivial,trivial,trivial⟩)
  ·rw[hj x u]at e;split at e
   ·rename_i dW;subst dW;cases e
    have ar:=h.dK x _ bA;obtain⟨aN,bw⟩:=axC Z x _ bA;simp only[pE]at bw;simp only[br,Y x aN]at ar ⊢;rcases ar with q|⟨b,arr,e1,e2,bT,fG⟩
    ·exact .inl q
    ·refine .inr ⟨b,arr,e1,e2,SZ pre _ bT (λy v ak aC=>xk Y y v ?_ aC) (λv ai=>?_),fG⟩
     ·exact S0 bw y (by rcases ak with ak|ak<;>simp[ak])
     ·simp only[aD,bk]at ai;simp only[aD,ai,gw,jX,and_self]
   ·obtain⟨aN,bw⟩:=axC Z x o e;exact(h.dK x o e).beta Y aN bw
 ·by_cases u:x=d
  ·subst u;rw[gw];simp[Lk]
  ·by_cases ak:y=d
   ·subst ak;rw[gw];simp[Lk]
   ·rw[Y x (by rw[←Bool.not_eq_true,Nat.beq_eq];exact Ne.symm u),Y y (by rw[←Bool.not_eq_true,Nat.beq_eq];exact Ne.symm ak)];exact h.eN x y (Zc x u ex) (Zc y ak yf) n5 b
 ·have:d≠x:=λe=>by subst e;simp at hi;exact hi u
  rw[Y x (by rw[←Bool.not_eq_true,Nat.beq_eq];exact this)];exact h.keep x u
 ·exact xk Y _ _ (axT ah aq) (dw aq)
end Go.Proofs.YtmnbolcmepihlaaGreat
namespace Go.Proofs.YtmnbolcmepihlaaGreat
set_option linter.all false
open Go List
def cG.stay{G:c7}{cx:gj}{I:bP}{β:Nat→Value}{σ:ag}{w w':World}(h:cG G cx I β σ w)(hk:∀b,b<w.heap.size→w'.heap[b]?=w.heap[b]?)(Z:w.heap.size≤w'.heap.size)(bU:w'.tape=w.tape)(ar:w'.os=w.os)(cF:w'.output=w.output)(hdr:w.drawn≤w'.drawn):cG G cx I β σ w':=by
  have gE:hJ w w' w.heap.size:=⟨λk _ cq=>hk k cq,Z,bU,ar,cF,hdr⟩
  exact{good:=λb o v ai=>by
            have h1:=h.good b o v ai;have cq:b<w.heap.size:=World.block_lt_of_cell? w _ h1;rw[World.cell?_of_block (w:=w) (hk b cq)];exact h1
        iU:=λb v ai=>by
            obtain⟨es,clock,h1,D⟩:=h.iU b v ai;exact⟨es,clock,by rw[hk b (hZ h1)];exact h1,D⟩
        ku:=h.ku,jY:=h.jY
        frame:=λb Y hm=>by rw[hk b (Nat.lt_of_lt_of_le Y h.size)];exact h.frame b Y hm
        size:=Nat.le_trans h.size Z,tape:=bU.trans h.tape,os:=ar.trans h.os,output:=cF.trans h.output,drawn:=Nat.le_trans h.drawn hdr
        dK:=λd o aa=>(h.dK d o aa).keep gE rfl (λe=>by have:=h.tN aa e;omega) (dc.refl I) (λ_ _ _=>rfl) (h8.refl β)
        eN:=h.eN,keep:=h.keep}
mutual
def W.jG:W→Bool
 |.int _ _=>true
 |.bool _=>true
 |.str _=>true
 |.undef=>true
 |.dm cs=>qi cs
 |.agg cs=>qi cs
 |_=>false
def qi:List W→Bool
 |[]=>true
 |x::r=>x.jG&&qi r
end
mutual
def aD.jG{I bm:bP}{β β':Nat→Value}:∀(a:W) (v:Value),a.jG=true→aD I β a v→aD bm β' a v
 |.int _ _,v,_,h=>by simpa only[aD,bk]using h
 |.bool _,v,_,h=>by simpa only[aD,bk]using h
 |.str _,v,_,h=>by simpa only[aD,bk]using h
 |.undef,v,_,h=>by simpa only[aD,bk]using h
 |.dm cs,v,Z,h=>by
  simp only[aD,W.jG]at h Z ⊢;obtain⟨vs,h1,D⟩:=h;exact⟨vs,h1,cw.jG cs _ Z D⟩
 |.agg cs,v,Z,h=>by
  simp only[aD,W.jG]at h Z ⊢;obtain⟨vs,h1,D⟩:=h;exact⟨vs,h1,cw.jG cs _ Z D⟩
 |.ig,_,Z,_|.bf _ _,_,Z,_|.gP _,_,Z,_|.fn _ _,_,Z,_|.dh,_,Z,_|.og,_,Z,_|.own _,_,Z,_|.ptr _ _,_,Z,_|.ep _,_,Z,_|.h9 _ _,_,Z,_|.l7,_,Z,_|.fH _ _,_,Z,_=>by simp[W.jG]at Z
def cw.jG{I bm:bP}{β β':Nat→Value}:∀(a:List W) (v:fK),qi a=true→cw I β a v→cw bm β' a v
 |[],v,_,h=>h
 |x::r,v,Z,h=>by
  simp only[cw,qi,Bool.and_eq_true]at h Z ⊢;obtain⟨aq,b8,h1,D,aj⟩:=h;exact⟨aq,b8,h1,aD.jG x aq Z.1 D,cw.jG r b8 Z.2 aj⟩
end
def Q0{I:bP}{sz:Nat}:∀(xs:List (List W)) (i:Nat),(∀e∈xs,e.length=sz)→i<xs.length→∃A B,xs.flatten=A++xs.getD i []++B∧A.length=i*sz∧(∀dW,(xs.set i dW).flatten=A++dW++B)
 |[],_,_,h=>by simp at h
 |e::r,0,aP,_=>⟨[],r.flatten,by simp,by simp,by simp⟩
 |e::r,i+1,aP,h=>by
  obtain⟨A,B,h1,D,aj⟩:=Q0 (I:=I) r i (λx u=>aP x (by simp[u])) (by simpa using h);refine⟨e++A,B,by simp[h1],?_,by simp[aj]⟩;rw[length_append,D,aP e (by simp),Nat.add_mul];omega
section ops
variable {G:c7}{o:Oper}{env:an}{σ:ag}{x y:Operand}
def ay9{α:Type}[Inhabited α]{T E sz d bl n:Nat}{k:IntKind}{i:Int}{dO:Bool}(rs:List α)(enc:α→List W)(h:o.op=.indexAddr T x y)(u:env.ev x=.own d)(ak:env.ev y=.int k i)(aa:σ.get d=some (.slice bl sz (rs.map enc) n dO))(aR:ji G.P T E sz)
  (hi:0≤i∧i<rs.length):Yields G o env.ev σ [] [d] (.ptr d (i.toNat*sz)):=
 .pure λaL cx I β w bp cz aA hop=>by
  have h1:=hop x (by simp[h,Op.operands]);rw[u]at h1
  have D:=hop y (by simp[h,Op.operands]);rw[ak]at D;have D:=jT D
  simp only[aD]at h1;obtain⟨h1,Z⟩:=h1;have c5:=aA.dK d _ (by rw[cz d (by simp)];exact aa);simp only[br,length_map]at c5;have cq:i.toNat<rs.length:=by omega
  rcases c5 with q|⟨_,q,_⟩|⟨b,aT,arr,ay,aG,_⟩
  ·rw[h1,q]at Z;simp[jX]at Z
  ·have:rs=[]:=by simpa using q
   subst this;simp at cq
  ·refine⟨.pointer (some ⟨b,i.toNat*sz,none⟩),?_,by simp only[aD];exact⟨b,by rw[ay];rfl,rfl⟩⟩;have e1:∀w,(underlying T).run G.P w=.ok (.slice E) w:=λw=>by simp[underlying,program,Sem.run,aR.ia]
   rw[ay]at h1;simp[execOp,h,h1,D,Instr.indexAt,asIntOf,e1,hi,aR.size,lG]
def S1{G:c7}{cx:gj}{I:bP}{β:Nat→Value}{σ:ag}{w:World}(aA:cG G cx I β σ w){d T sz k b:Nat}{dO:Bool}{xs:List (List W)}(aa:σ.get d=some (.slice T sz xs k dO))(Y:cV (β d)=some b):
  ∃aT arr,β d=.slice (some ⟨b,0,none⟩) xs.length aT∧xs.length≤aT∧aT≤maxLen∧w.heap[b]?=some (.cells arr T (0,0))∧arr.size=aT*sz∧cD I xs.flatten (arr.toList.take (xs.length*sz))∧(∀e∈xs,e.length=sz)∧k≤xs.length∧
   (dO=true→∀o,o<xs.length*sz→I b o=arr[o]?)∧(∀o,k*sz≤o→I b o=none)∧Place cx b∧cw I β (xs.flatten++List.replicate (arr.size-xs.length*sz) .ig) arr.toList:=by
 have ar:=aA.dK d _ aa;simp only[br]at ar;rcases ar with q|⟨q,_⟩|⟨aX,aT,arr,ay,aG,a1,aW,bt,b1,cE,dA,ef,eY,gb⟩
 ·rw[q]at Y;simp[cV]at Y
 ·rw[q]at Y;simp[cV]at Y
 ·have:aX=b:=by rw[ay]at Y;simpa [cV]using Y
  subst this;refine⟨aT,arr,ay,aG,a1,aW,bt,b1,cE,dA,ef,eY,gb,?_⟩;have e:arr.toList=arr.toList.take (xs.length*sz)++arr.toList.drop (xs.length*sz):=(take_append_drop _ _).symm;rw[e];refine tg _ _ _ _ (cD.rep β _ _ b1) ?_;have aY:∀(l:fK),cw I β (List.replicate l.length .ig) l:=by
   intro l;induction l with
   |nil=>simp[cw]
   |cons v r bX=>simp only[length_cons,List.replicate_succ,cw];exact⟨v,r,rfl,by simp[aD],bX⟩
  have:=aY (arr.toList.drop (xs.length*sz));simpa using this
def azf{α:Type}[Inhabited α]{T bl:TypeId}{n d p sz k off:Nat}{dO ej:Bool}{i:Int}(rs:List α)(enc:α→List W)(h:o.op=.load T x)(u:env.ev x=.ptr d p)(aa:σ.get d=some (.slice bl sz (rs.map enc) k dO))(aK:p=i.toNat*sz+off)
  (hi:0≤i∧i<rs.length) (aR:dS G.P T n ej) (bA:(ej||Nat.blt 0 n)=true) (be:Nat.ble (off+n) sz=true) {a:W} (aI:pY ej n ((enc (el rs i)).drop off)=some a):Yields G o env.ev σ [] [d] a:=
 .pure λaL cx I β w bp cz aA hop=>by
  have be:off+n≤sz:=by simpa using be
  have h1:=hop x (by simp[h,Op.operands]);rw[u]at h1
  simp only[aD]at h1;obtain⟨b,h1,D⟩:=h1;obtain⟨aT,arr,ay,aG,a1,aW,bt,b1,cE,dA,ef,eY,gb,qn⟩:=S1 aA (by rw[cz d (by simp)];exact aa) h1;have cq:i.toNat<rs.length:=by omega
  obtain⟨A,B,s1,e8,_⟩:=Q0 (I:=I) (rs.map enc) i.toNat cE (by simpa using cq);have nQ:(rs.map enc).getD i.toNat []=enc (el rs i):=by
   simp[getD_eq_getElem?_getD,cq,el]
  rw[nQ]at s1;have hz:(enc (el rs i)).length=sz:=cE _ (by rw[←nQ,getD_eq_getElem?_getD,List.getElem?_eq_getElem (by simpa using cq)];exact List.getElem_mem _)
  obtain⟨v,iG,hW⟩:=Kr aR (λe=>by subst e;simpa using bA) (off:=p) aW qn (by
   rw[s1];simp only[length_append,e8,hz];omega)
  refine⟨v,by simp[execOp,h,D,Instr.loadAt,Instr.sureAddr,iG],?_⟩;have e:((List.map enc rs).flatten++List.replicate (arr.size-(List.map enc rs).length*sz) W.ig).drop p=(enc (el rs i)).drop off++(B++List.replicate (arr.size-(List.map enc rs).length*sz) W.ig):=by
   rw[s1,aK,List.append_assoc,List.append_assoc,←drop_drop,←e8,drop_left,drop_append_of_le_length (by omega)]
  rw[e]at hW;have e2:od ej n ((enc (el rs i)).drop off++(B++List.replicate (arr.size-(List.map enc rs).length*sz) W.ig))=od ej n ((enc (el rs i)).drop off):=by
   have aP:n≤((enc (el rs i)).drop off).length:=by simp;omega
   cases ej with
   |true=>simp only[od,cond_true];rw[take_append_of_le_length aP]
   |false=>
    simp only[od,cond_false];have PL:0<n:=by simpa using bA
    cases ah:(enc (el rs i)).drop off with
    |nil=>rw[ah]at aP;simp at aP;omega
    |cons z t=>rfl
  rw[e2,HD aI]at hW;exact hW
def Rz{I:bP}{β:Nat→Value}{a:List W}{v:fK}(ah:mE a=true)(h:cw I β a v):cD I a v:=cw.closed a v ah h
def azO{α:Type}[Inhabited α]{T bl d p sz k off n:Nat}{dO ej:Bool}{a:W}{ca:List W}{i:Int}{ev:Operand→W}(rs:List α)(enc:α→List W)(r':α)(h:o.op=.store T x y)(u:ev x=.ptr d p)(ak:ev y=a)(aa:σ.get d=some (.slice bl sz (rs.map enc) k dO))(aK:p=i.toNat*sz+off)
  (hi:0≤i∧i<rs.length) (hk:(k:Int)≤i) (aR:dS G.P T n ej) (bc:a.flat=true) (yt:tP a=some ca) (iQ:mE ca=true) (be:Nat.beq ca.length n=true) (aP:Nat.ble (off+n) sz=true) (aC:iT (enc (el rs i)) off ca=enc r') :
  hK G o ev σ [d] [] (λr aL=>r=.undef∧aL=σ.set d (.slice bl sz ((rs.set i.toNat r').map enc) k false)):=by
 intro cx I β w bp aA hop;have be:ca.length=n:=by simpa using be
 have aP:off+n≤sz:=by simpa using aP
 have h1:=hop x (by simp[h,Op.operands]);rw[u]at h1
 have D:=hop y (by simp[h,Op.operands]);rw[ak]at D
 simp only[aD]at h1;obtain⟨b,h1,aj⟩:=h1;obtain⟨aT,arr,ay,aG,a1,aW,bt,b1,cE,dA,ef,eY,gb,qn⟩:=S1 aA aa h1;obtain⟨f1,f2⟩:=aya bc D;rw[Df yt]at f1;have hx:=tf _ _ f1;have cq:i.toNat<rs.length:=by omega
 obtain⟨A,B,s1,e8,s3⟩:=Q0 (I:=I) (rs.map enc) i.toNat cE (by simpa using cq);have nQ:(rs.map enc).getD i.toNat []=enc (el rs i):=by simp[getD_eq_getElem?_getD,cq,el]
 rw[nQ]at s1;have hz:(enc (el rs i)).length=sz:=cE _ (by rw[←nQ,getD_eq_getElem?_getD,List.getElem?_eq_getElem (by simpa using cq)];exact List.getElem_mem _);have apB:(enc r').length=sz:=by rw[←aC];simp only[iT,length_append,length_take,length_drop,hz];omega
 simp only[length_map]at ay aG bt b1 dA;have kT:i.toNat*sz+sz≤rs.length*sz:=by
  have:=Nat.mul_le_mul_right sz (show i.toNat+1≤rs.length from cq)
  rwa [Nat.add_mul,Nat.one_mul]at this
 have avH:rs.length*sz≤arr.size:=by rw[bt];exact Nat.mul_le_mul_right sz aG
 have lB:=JU (P:=G.P) aW (bp y).cells.toList (off:=p) (by omega) f2;have Qo:(bp y).cells.size=ca.length:=by simpa using hx
 have gF:(execOp bp o).run G.P w=.ok .skip (w.setRow b (iT arr.toList p (bp y).cells.toList).toArray):=by
  have e1:¬((bp y).cells.size≠n):=by omega
  simp[execOp,h,aj,Instr.storeAt,Instr.sureAddr,storeVar,aR.size,e1,lB]
 rw[gF];refine⟨.undef,_,I,β,⟨rfl,rfl⟩,by simp[aD,bk],?_,dc.refl I,λ_ _=>rfl,λx u=>by rw[axu,if_neg (by simpa using u)]⟩;have CA:k*sz≤p:=by
  have:k≤i.toNat:=by omega
  have:=Nat.mul_le_mul_right sz this;omega
 refine aA.turn (d:=d) (hJ.setRow w b _) gb (λx u=>by rw[axu,if_neg u]) (λx u Z e=>aA.eN x d Z (by rw[aa];rfl) u b e (lF h1)) (dc.refl I) (λ_ _ _=>rfl)
  (λo v ai=>?_) (aA.uZ aW) (λ_ _=>rfl) (.inr rfl) (h8.refl β) (.inl h1) λaZ c5=>?_
 ·
  have ar:o<k*sz:=by
   by_cases ar:o<k*sz
   ·exact ar
   ·rw[eY o (by omega)]at ai;cases ai
  have bQ:=aA.good b o v ai;simp only[World.cell?,aW]at bQ;simp only[World.cell?,setRow_heap w b arr _ bl _ aW];simp only[Option.isSome_none,Bool.false_eq_true,if_false]at bQ ⊢;rw[←bQ];have:o<p:=by omega
  simp only[iT,getElem?_toArray];rw[List.append_assoc,List.getElem?_append_left (by simp;omega),getElem?_take,if_pos this,Array.getElem?_toList]
 ·rw[axu,if_pos rfl,aa]at c5;injection c5 with c5
  subst c5;simp only[br,length_map,length_set];refine .inr (.inr ⟨b,aT,_,ay,aG,a1,setRow_heap w b arr _ bl _ aW,?_,?_,?_,dA,(λh=>by cases h),eY,gb⟩)
  ·simp only[iT,size_toArray,length_append,length_take,length_drop,Array.length_toList];omega
  ·have YH:=Rz (I:=I) iQ f1;have key:((rs.set i.toNat r').map enc).flatten=A++(iT (enc (el rs i)) off ca)++B:=by
    rw[List.map_set,s3,aC]
   rw[key];rw[s1]at b1;obtain⟨kO,kY,e1,iG,hW⟩:=(mC _ _ _).1 b1;obtain⟨vi,aw7,e2,qY,r4⟩:=(mC _ _ _).1 iG;have m1:=oT _ _ qY;have m2:=oT _ _ r4;have o6:=oT _ _ hW;have fG:enc (el rs i)=(enc (el rs i)).take off++((enc (el rs i)).drop off):=(take_append_drop _ _).symm;rw[fG]at r4;obtain⟨wI,aw8,gy,y3,xG⟩:=(mC _ _ _).1 r4;have Gr:=oT _ _ y3;have g1:(enc (el rs i)).drop off=((enc (el rs i)).drop off).take n++(enc (el rs i)).drop (off+n):=by
    rw[←drop_drop];exact(take_append_drop _ _).symm
   rw[g1]at xG;obtain⟨Ri,u8,jN,aqu,aqv⟩:=(mC _ _ _).1 xG;have Zy:=oT _ _ aqu;have ap6:wI.length=off:=by rw[Gr,length_take];omega
   have ap7:Ri.length=n:=by rw[Zy,length_take,length_drop];omega
   have nh:(iT arr.toList p (bp y).cells.toList).take (rs.length*sz)=vi++(wI++(bp y).cells.toList++u8)++kY:=by
    have aI:arr.toList=(vi++(wI++(Ri++u8))++kY)++arr.toList.drop (rs.length*sz):=by
     conv=>lhs;rw[←take_append_drop (rs.length*sz) arr.toList]
     rw[e1,e2,gy,jN]
    have dZ:(vi++wI).length=p:=by rw[length_append,m1,ap6,e8,aK]
    have jO:(bp y).cells.toList.length=n:=by rw[hx,be]
    have oZ:iT arr.toList p (bp y).cells.toList=(vi++wI)++(bp y).cells.toList++(u8++(kY++arr.toList.drop (rs.length*sz))):=by
     unfold iT;rw[jO];have uH:arr.toList=(vi++wI)++(Ri++(u8++(kY++arr.toList.drop (rs.length*sz)))):=by
      conv=>lhs;rw[aI]
      simp only[List.append_assoc]
     have t1:arr.toList.take p=vi++wI:=by rw[uH,←dZ,take_left]
     have t2:arr.toList.drop (p+n)=u8++(kY++arr.toList.drop (rs.length*sz)):=by
      rw[←drop_drop]
      conv=>lhs;rw[uH]
      rw[←dZ,drop_left,←ap7,drop_left]
     rw[t1,t2]
    rw[oZ];have eH:((vi++wI)++(bp y).cells.toList++(u8++kY)).length=rs.length*sz:=by
     have hc:=congrArg List.length (e1.trans (by rw[e2,gy,jN]));simp only[length_take,length_append,Array.length_toList]at hc;simp only[length_append,jO];omega
    have:(vi++wI)++(bp y).cells.toList++(u8++(kY++arr.toList.drop (rs.length*sz)))=((vi++wI)++(bp y).cells.toList++(u8++kY))++arr.toList.drop (rs.length*sz):=by simp
    rw[this,←eH,take_left];simp
   rw[nh];refine(mC _ _ _).2 ⟨_,_,rfl,(mC _ _ _).2 ⟨_,_,rfl,qY,?_⟩,hW⟩;unfold iT;rw[be];exact(mC _ _ _).2 ⟨_,_,rfl,(mC _ _ _).2 ⟨_,_,rfl,y3,YH⟩,aqv⟩
  ·intro e he;obtain⟨z,jB,rfl⟩:=List.mem_map.1 he;rcases List.mem_or_eq_of_mem_set jB with jB|rfl
   ·exact cE _ (List.mem_map_of_mem jB)
   ·exact apB
end ops
end Go.Proofs.YtmnbolcmepihlaaGreat
namespace Go.Proofs.YtmnbolcmepihlaaGreat
set_option linter.all false
open Go List
section
variable {P:Program}{w:World}{d:Nat}{xs bD:jj}{f:Field}{it:List Field}{T off:Nat}{r:Bool}
def Uy:(Op.eqFields d xs bD []).run P w=.ok true w:=rfl
def Ho{k gK:IntKind}{a b:Int}(bc:(f.name== "_",f.type,f.offset)=(false,T,off))(hz:∀w,(isAgg T).run P w=.ok false w)(aR:P.underlying T=some (.int gK))(u:xs[off]?=some (.int k a))(ak:bD[off]?=some (.int k b))
  (h:(Op.eqFields (d+1) xs bD it).run P w=.ok r w):(Op.eqFields (d+1) xs bD (f::it)).run P w=.ok (decide (a=b)&&r) w:=by
 simp only[Prod.mk.injEq]at bc;obtain⟨h1,D,aj⟩:=bc;have h1:f.name≠ "_":=by simpa using h1
 simp only[Op.eqFields,D,aj,if_pos h1];have aqp:(part T xs off).run P w=.ok (.int k a) w:=by simp[part,hz,Array.getElem!_eq_getD,Array.getD_eq_getD_getElem?,u]
 have aqq:(part T bD off).run P w=.ok (.int k b) w:=by simp[part,hz,Array.getElem!_eq_getD,Array.getD_eq_getD_getElem?,ak]
 simp only[Sem.run_bind,aqp,aqq,Result.andThen_ok,run_equalIn_int w d T k gK a b aR];by_cases e:a=b
 ·simp[e,h]
 ·simp[e]
def GI{l:List Field}{x:Bool×Nat×Nat}{r:List (Bool×Nat×Nat)}(h:l.map (λf=>(f.name== "_",f.type,f.offset))=x::r):∃f t,l=f::t∧(f.name== "_",f.type,f.offset)=x∧t.map (λf=>(f.name== "_",f.type,f.offset))=r:=by
 cases l with
 |nil=>simp at h
 |cons f t=>simp only[map_cons,List.cons.injEq]at h;exact⟨f,t,rfl,h.1,h.2⟩
def Sy{l:List Field}(h:l.map (λf=>(f.name== "_",f.type,f.offset))=[]):l=[]:=by simpa using h
def aeY(xs bD:jj)(r:Bool)(x y:Operand)(bQ:P.eqGuardType P.depth T=false)(cF:P.underlying T=some (.struct (P.fieldsOf T)))(aK:P.stoodInHeld T=false)(h:(Op.eqFields 9999 xs bD (P.fieldsOf T).toList).run P w=.ok r w):
  (do eqGuard .neq T x y (.agg xs) (.agg bD);binOp .neq T (.agg xs) (.agg bD):Sem Value).run P w=.ok (.bool (!r)) w:=by
 rw[Sem.run_bind,run_eqGuard_agg w .neq T x y _ _ bQ];simp only[Result.andThen_ok,run_neq_struct];rw[run_equalIn_agg w 9999 T _ _ cF aK,h];rfl
end
def axU{G:c7}{c:Code}{Q:Exit→an→ag→Prop}{env:an}{σ:ag}(h:aF G c (λe env σ=>∃eB σ2,dr G env σ eB σ2∧Q e eB σ2) env σ):aF G c Q env σ:=by
 refine axS λcx a w aC=>wp_mono (aF.use h cx a w aC) ?_;rintro e gl w' ⟨hh,aL,qC,eB,σ2,aA,cA⟩;exact⟨eB,σ2,aA.rel qC,cA⟩
def aeZ{α:Type}(enc:α→List W)(h:∀r,(enc r).all W.one=true)(l:List α):(l.map enc).flatten.all W.one=true:=by
 induction l with
 |nil=>rfl
 |cons x r bX=>rw[map_cons,flatten_cons,List.all_append,h x,bX];rfl
def hC{P:Program}{T f off n Sd:Nat}{ej:Bool}{it:Array Field}(cF:P.underlying T=some (.struct it))(bc:(it[f]?).map (λg=>(g.type,g.offset))=some (Sd,off))(bU:dS P Sd n ej)(aK:ej=false→n=1):g7 P T f off n ej where
 pos:=aK
 run:=λcs w h=>by
  cases bQ:it[f]? with
  |none=>rw[bQ]at bc;cases bc
  |some g=>
   rw[bQ]at bc;simp only[Option.map_some,Option.some.injEq,Prod.mk.injEq]at bc;simp only[Instr.field,Sem.run_bind,run_underlying cF,Result.andThen_ok,bQ,bc.1,bc.2,asAgg,Sem.run_pure];cases ej with
   |true=>simp[part,bU.agg,bU.size]
   |false=>
    have:=aK rfl;subst this;simp[part,bU.agg,Array.getD_eq_getD_getElem?,Array.getElem?_eq_getElem (show off<cs.size by omega)]
end Go.Proofs.YtmnbolcmepihlaaGreat
namespace Go.Proofs.YtmnbolcmepihlaaGreat
set_option linter.all false
open Go List
section win
variable {G:c7}{o:Oper}{ev:Operand→W}{σ:ag}
def br.ajR{cx:gj}{I:bP}{β:Nat→Value}{w:World}{d T sz k:Nat}{xs:List (List W)}(h:br cx I β w d (.slice T sz xs k true))(hk:k=xs.length):br cx I β w d (.win T sz xs):=by
 simp only[br]at h ⊢;rcases h with q|⟨q,aG,_⟩|⟨b,aT,arr,ay,aG,a1,aW,bt,b1,cE,dA,ef,eY,gb⟩
 ·exact .inl q
 ·exact .inr (.inl ⟨q,aG⟩)
 ·refine .inr (.inr ⟨b,0,aT,arr,ay,aG,a1,aW,λ_=>by omega,?_,cE,λ_ o ar=>eY o (by rw[hk];omega),gb⟩);refine AY xs 0 _ b1 λj v ai=>?_;rw[Nat.zero_add];rw[getElem?_take]at ai;split at ai
  ·rename_i cq;rw[ef trivial j cq];simpa using ai
  ·cases ai
def dr.win{env:an}{d T sz k:Nat}{xs:List (List W)}(aa:σ.get d=some (.slice T sz xs k true))(hk:k=xs.length):dr G env σ env (σ.set d (.win T sz xs)):=λcx I β a w h dw=>by
 refine⟨I,β,{h with dK:=λx aZ u=>?_,eN:=λx y u ak=>?_},dw⟩
 ·rw[axu]at u;split at u
  ·rename_i e;subst e;rw[aa]at u;cases u;exact(h.dK _ _ aa).ajR hk
  ·exact h.dK x aZ u
 ·have:∀x,(ag.get (σ.set d (.win T sz xs)) x).isSome→(σ.get x).isSome:=λx u=>by
   rw[axu]at u;split at u
   ·rename_i e;subst e;rw[aa];rfl
   ·exact u
  exact h.eN x y (this x u) (this y ak)
def azP{T E sz bl d d2:Nat}{x:Operand}{lo:Option Operand}{xs:List (List W)}(h:o.op=.slice T x lo none none)(u:ev x=.own d)(aa:σ.get d=some (.win bl sz xs))(aR:ji G.P T E sz)(CP:zc ev lo)
  (lX:0≤ni ev lo∧ni ev lo≤xs.length) (hi:G.ids.contains d2=false) (ah:(σ.minus [d]).clean [d2].contains=true) :
  hK G o ev σ [d,d2] [d2] (λr aL=>r=.own d2∧aL=(d2,.win bl sz (xs.drop (ni ev lo).toNat))::σ.minus [d]):=by
 intro cx I β w bp aA hop;have fU:=hop x (by simp[h,Op.operands]);rw[u]at fU;simp only[aD]at fU;obtain⟨fU,fV⟩:=fU;generalize aP:ni ev lo=l at lX ⊢;have lM:cG G cx I β (σ.minus [d]) w:=aA.sub λx aZ u=>by rw[axz]at u;split at u<;>first|cases u|exact u
 have ng:=lM.rY (ew:=[d2]) (σ2:=(d2,.win bl sz (xs.drop l.toNat))::σ.minus [d]) (env:=[]) ⟨λx u=>by rw[axp,if_neg (λe=>u (by simp[e]))],λx u=>by simp at u;subst u;simpa using hi,rfl,ah,λx u gV n h=>by simp at u;subst u;rw[axp,if_pos rfl]at h;cases h⟩;have hj:∀x,x≠d2→hL β [d2] x=β x:=λx u=>by simp[hL,u]
 have ar:=aA.dK d _ aa;simp only[br]at ar;have run:∀(a:Option Addr) (c:Nat),bp x=.slice a xs.length c→xs.length≤c→(execOp bp o).run G.P w=.ok (.value (.slice (if c=l.toNat then a else a.map (·.add (l.toNat*sz))) (xs.length-l.toNat) (c-l.toNat))) w:=by
  intro a c h1 D;have e1:(Instr.sliceBounds true xs.length c (lo.map bp) none none).run G.P w=.ok (l.toNat,xs.length,c) w:=by
   cases lo with
   |none=>
    simp only[ni]at aP;subst aP;simp[Instr.sliceBounds]
   |some y=>
    obtain⟨k,n,ay,aG⟩:=BJ CP (hop y (by simp[h,Op.operands]));simp only[ni,ay]at aP;subst aP;have:=run_sliceBound (P:=G.P) (k:=k) (code:=.sliceB) (w:=w) lX;simp[Instr.sliceBounds,aG,this]
  have e2:∀w,(underlying T).run G.P w=.ok (.slice E) w:=λw=>run_underlying aR.ia w;simp only[execOp,h,Instr.sliceAt,Instr.slice,h1,Sem.run_bind,e2,Result.andThen_ok,e1,aR.size,Sem.run_pure,Option.map_none]
 have fin:∀(eP:Value),(execOp bp o).run G.P w=.ok (.value eP) w→jX eP=true→(∀b∈e4 eP,b∈e4 (β d))→br cx I (iL β d2 eP) w d2 (.win bl sz (xs.drop l.toNat))→
   mN G.P (λv w'=>∃(bZ:W) (aL:ag) (bm:bP) (β':Nat→Value),(bZ=.own d2∧aL=(d2,c4.win bl sz (xs.drop l.toNat))::σ.minus [d])∧aD bm β' bZ v∧cG G cx bm β' aL w'∧dc I bm∧(∀x,x∉[d2]→β' x=β x)∧(∀x,x∉[d,d2]→aL.get x=σ.get x)) ((execOp bp o).run G.P w):=by
  intro eP gF j4 gw c5;rw[gF];refine⟨.own d2,_,I,iL β d2 eP,⟨rfl,rfl⟩,by simp only[aD,h0,j4,and_self],?_,dc.refl I,λx u=>iJ β eP (by simpa using u),λx u=>?_⟩
  ·have iQ:∀x aZ,(σ.minus [d]).get x=some aZ→x≠d2∧pE [d2].contains aZ=false:=λx aZ u=>by
    obtain⟨aN,bw⟩:=axC ah x aZ u;exact⟨by simpa using aN,bw⟩
   have vE:∀x,[d2].contains x=false→iL β d2 eP x=β x:=λx u=>iJ β eP (by simpa using u);refine{lM with dK:=λx aZ u=>?_,eN:=λx y u ak di b=>?_,keep:=λx u=>?_}
   ·rw[axp]at u;split at u
    ·rename_i e;subst e;cases u;exact c5
    ·obtain⟨aN,bw⟩:=axC ah x aZ u;exact(lM.dK x aZ u).beta vE aN bw
   ·have wD:∀x,(ag.get ((d2,c4.win bl sz (xs.drop l.toNat))::σ.minus [d]) x).isSome→x≠d2→(σ.get x).isSome∧x≠d:=λx u be=>by
     rw[axp,if_neg (Ne.symm be),axz]at u;split at u
     ·cases u
     ·rename_i hm;exact⟨u,by simpa using hm⟩
    by_cases eu:x=d2
    ·subst eu;have qD:y≠x:=λe=>di e.symm;obtain⟨s1,e8⟩:=wD y ak qD;rw[h0,iJ β eP qD];intro e1 e2;exact aA.eN y d s1 (by rw[aa];rfl) e8 b e2 (gw b e1)
    ·obtain⟨s1,e8⟩:=wD x u eu;rw[iJ β eP eu];by_cases qD:y=d2
     ·subst qD;rw[h0];intro e1 e2;exact aA.eN x d s1 (by rw[aa];rfl) e8 b e1 (gw b e2)
     ·obtain⟨t1,t2⟩:=wD y ak qD;rw[iJ β eP qD];exact aA.eN x y s1 t1 di b
   ·have:x≠d2:=λe=>by subst e;rw[←Bool.not_eq_true]at hi;exact hi (by simpa using u)
    rw[iJ β eP this];exact aA.keep x u
  ·have u:x≠d∧x≠d2:=by simpa using u
   rw[axp,if_neg (Ne.symm u.2),axz,if_neg (by simpa using u.1)]
 rcases ar with q|⟨q,rfl⟩|⟨b,o0,aT,arr,ay,aG,a1,aW,bt,b1,cE,dA,ef⟩
 ·rw[q]at fU;rw[fU]at fV;simp[jX]at fV
 ·have AE:l=0:=by simp at lX;omega
  subst AE;refine fin _ (run none 0 (by rw[fU,q];rfl) (by simp)) rfl (by simp[e4,cV]) ?_;simp only[br,h0];exact .inr (.inl ⟨by simp,by simp⟩)
 ·have yA:l.toNat≤xs.length:=by omega
  refine fin _ (run _ aT (by rw[fU,ay]) aG) rfl ?_ ?_
  ·intro aX h5;rw[ay];split at h5
   ·exact h5
   ·simp only[Option.map_some,lG]at h5;exact h5
  ·simp only[br,h0];have eH:(xs.drop l.toNat).length=xs.length-l.toNat:=by simp
   refine .inr (.inr ?_);by_cases iQ:aT=l.toNat
   ·have Ju:xs.drop l.toNat=[]:=drop_eq_nil_of_le (by omega);refine⟨b,o0,aT-l.toNat,arr,by rw[if_pos iQ,eH],by rw[eH];omega,by omega,aW,λct=>by omega,by rw[Ju];trivial,by rw[Ju];simp,λct=>by omega,ef⟩
   ·refine⟨b,o0+l.toNat*sz,aT-l.toNat,arr,?_,by rw[eH];omega,by omega,aW,λct=>?_,Kt _ _ _ cE b1,λe he=>cE e (mem_of_mem_drop he),λct o ar=>?_,ef⟩
    ·rw[if_neg iQ,eH];simp[lG]
    ·rw[eH]at ct;have:=bt (by omega);have e:o0+l.toNat*sz+(aT-l.toNat)*sz=o0+aT*sz:=by
      rw[Nat.add_assoc,←Nat.add_mul];congr 2;omega
     omega
    ·rw[eH]at ct ar;refine dA (by omega) o ?_;have e:o0+l.toNat*sz+(xs.length-l.toNat)*sz=o0+xs.length*sz:=by
      rw[Nat.add_assoc,←Nat.add_mul];congr 2;omega
     omega
def aar{I:bP}{b sz:Nat}:∀{xs bD:List (List W)} {o:Nat},(∀e∈xs,e.length=sz)→(jF I b (xs++bD) o↔jF I b xs o∧jF I b bD (o+xs.length*sz))
 |[],bD,o,_=>by simp[jF]
 |x::r,bD,o,h=>by
  simp only[cons_append,jF,length_cons];rw[aar (λe he=>h e (by simp[he])),h x (by simp),Nat.add_mul,Nat.one_mul,and_assoc,Nat.add_assoc,Nat.add_comm sz]
def asT{P:Program}(w:World)(t ty e:TypeId)(i:TypeInfo)(bU:P.underlying t=some (.slice e))(hi:P.info? e=some i)
  (g off Bq Q6:Nat) (uu:jj) (bQ:w.heap[g]?=some (.cells uu e (0,0)))
  (a:Addr) (m c:Nat) (news:fK) (aP:news.length=m*i.size) (sy:∀j aq,news[j]?=some aq→w.cell? (a.add j)=some aq) (h1:∀aq∈news,aq.oneCell'=true)
  (rG:Bq+m≤Q6) (uM:off+Bq*i.size+news.length≤uu.size) :
  (Builtin.append_ #[t,t] ty #[.slice (some ⟨g,off,none⟩) Bq Q6,.slice (some a) m c]).run P w =
   .ok (.slice (some ⟨g,off,none⟩) (Bq+m) Q6) (w.setRow g (uu.toList.take (off+Bq*i.size)++news++uu.toList.drop (off+Bq*i.size+news.length)).toArray):=by
 have bc:=run_firstCells_some (P:=P) w i.size m a m c news aP sy;have lB:=run_storeCells_at P g (off+Bq*i.size) e news 0 uu w bQ (by simpa using uM) h1;simp only[Nat.add_zero]at lB;simp[Builtin.append_,run_underlying bU,Go.sizeOf,typeInfo,hi,Builtin.lenOf,rG,bc,lG,lB]
def azK{s x:Operand}{T E sz bytes d d2 bl:Nat}{f:Bool}{xs bD:List (List W)}(h:o.op=.call ⟨.builtin .append,#[s,x],#[T,T]⟩)(Z:ev s=.own d)(aa:σ.get d=some (.win bl sz xs))(u:jk σ (ev x) (.bf f bD))(aR:jy G.P T E sz bytes)(iV:bl=E)
  (tH:∀e∈bD,e.length=sz) (h1:bD.flatten.all W.one=true) (Y:(xs.length+bD.length)*bytes≤140737488355328) (qw:xs.length+bD.length≤maxLen) (hi:G.ids.contains d2=false)
  (ah:(σ.minus [d]).clean [d2].contains=true) :
  hK G o ev σ [d,d2] [d2] (λr aL=>r=.own d2∧aL=(d2,.win bl sz (xs++bD))::σ.minus [d]):=by
 subst iV;intro cx I β w bp aA hop;have fU:=hop s (by simp[h,Op.operands,Call.operands]);rw[Z]at fU;simp only[aD]at fU;obtain⟨fU,fV⟩:=fU;have bF:=u.rep aA _ (hop x (by simp[h,Op.operands,Call.operands]));simp only[aD,bk]at bF;obtain⟨a,c,bF,eu,h7,_,lC⟩:=bF;obtain⟨i,z,iY,jB,jI,pN,xd⟩:=aR.info;have sy:∃news:fK,cD I bD.flatten news∧(bD.length=0∨∃ad:Addr,a=some ad∧∀j aq,news[j]?=some aq→w.cell? (ad.add j)=some aq):=by
  rcases lC with rfl|⟨b,o,rfl,aC⟩
  ·exact⟨[],rfl,.inl rfl⟩
  ·obtain⟨vs,ay,aG⟩:=C8 aA.good bD o aC;exact⟨vs,ay,.inr ⟨_,rfl,λj aq cF=>by rw[lG];exact aG j aq cF⟩⟩
 obtain⟨news,m8,n4⟩:=sy;have kj:news.length=bD.length*sz:=by rw[oT _ _ m8];exact yK bD tH
 have qB:=SX _ _ h1 m8;have lZ:xs.length+bD.length≤9223372036854775807:=by simp only[maxLen]at qw;omega
 have lM:cG G cx I β (σ.minus [d]) w:=aA.sub λx aZ u=>by rw[axz]at u;split at u<;>first|cases u|exact u
 have ng:=lM.rY (ew:=[d2]) (σ2:=(d2,.win bl sz (xs++bD))::σ.minus [d]) (env:=[]) ⟨λx u=>by rw[axp,if_neg (λe=>u (by simp[e]))],λx u=>by simp at u;subst u;simpa using hi,rfl,ah,λx u gV n h=>by simp at u;subst u;rw[axp,if_pos rfl]at h;cases h⟩;have hj:∀x,x≠d2→hL β [d2] x=β x:=λx u=>by simp[hL,u]
 have fin:∀(eP:Value) (w':World) (b:Nat) (bm:bP),(execOp bp o).run G.P w=.ok (.value eP) w'→jX eP=true→hJ w w' b→Place cx b→(∀x,((σ.minus [d]).get x).isSome→b∉e4 (β x))→
   dc I bm→(∀aX,aX≠b→∀o,bm aX o=I aX o)→
   (∀(o:Nat) v,bm b o=some v→w'.cell? ⟨b,o,none⟩=some v)→bm b none=none→(cV eP=some b∨e4 eP=[])→br cx bm (iL β d2 eP) w' d2 (.win bl sz (xs++bD))→
   mN G.P (λv w'=>∃(bZ:W) (aL:ag) (bm:bP) (β':Nat→Value),(bZ=.own d2∧aL=(d2,c4.win bl sz (xs++bD))::σ.minus [d])∧aD bm β' bZ v∧cG G cx bm β' aL w'∧dc I bm∧(∀x,x∉[d2]→β' x=β x)∧(∀x,x∉[d,d2]→aL.get x=σ.get x)) ((execOp bp o).run G.P w):=by
  intro eP w' b bm gF j4 hk aK pJ hle fZ BI AG gw c5;rw[gF];refine⟨.own d2,_,bm,iL β d2 eP,⟨rfl,rfl⟩,by simp only[aD,h0,j4,and_self],?_,hle,λx u=>iJ β eP (by simpa using u),λx u=>?_⟩
  ·refine ng.turn (d:=d2) hk aK (λ_ _=>rfl) (λx u lZ e=>?_) hle fZ BI AG (λx u=>by rw[iJ β eP u,hj x u]) (.inl (by simpa using hi)) (λx=>?_) (by rw[h0];exact gw) (λaZ oG=>?_)
   ·rw[axp,if_neg (Ne.symm u)]at lZ;rw[hj x u]at e;exact pJ x lZ e
   ·by_cases u:x=d2
    ·left;simp[hL,u]
    ·right;rw[iJ β eP u,hj x u]
   ·rw[axp,if_pos rfl]at oG;injection oG with oG
    subst oG;exact c5
  ·have u:x≠d∧x≠d2:=by simpa using u
   rw[axp,if_neg (Ne.symm u.2),axz,if_neg (by simpa using u.1)]
 have rU:∀b,cV (β d)=some b→∀x,((σ.minus [d]).get x).isSome→b∉e4 (β x):=λb gw x u e=>by
  rw[axz]at u;split at u
  ·cases u
  ·rename_i o1;exact aA.eN x d u (by rw[aa];rfl) (by simpa using o1) b e (lF gw)
 have fresh:∀x,((σ.minus [d]).get x).isSome→w.heap.size∉e4 (β x):=λx u e=>by
  obtain⟨aZ,u⟩:=Option.isSome_iff_exists.1 u;exact absurd (lM.tN u e) (by omega)
 have tO:∀nt,nt<xs.length+bD.length→xs.length+bD.length≤grownCap w (xs.length+bD.length) nt bl∧grownCap w (xs.length+bD.length) nt bl≤maxLen:=λnt _=>⟨grownCap_ge _ _ _ _,grownCap_le_maxLen _ _ _ _ qw⟩;have nq:∀aZ,hJ w (w.drew.alloc aZ) w.heap.size:=λaZ=>(hJ.alloc w.drew aZ).drew
 have UZ:∀(iF:fK) (aT:Nat),cD I xs.flatten iF→iF.length=xs.length*sz→(∀e∈xs,e.length=sz)→xs.length+bD.length≤aT→aT≤maxLen→
   (execOp bp o).run G.P w=.ok (.value (.slice (some ⟨w.heap.size,0,none⟩) (xs.length+bD.length) aT)) (w.drew.alloc (.cells (iF.toArray++news.toArray++Builtin.zeroCells z.cells (aT-(xs.length+bD.length))) bl))→
   mN G.P (λv w'=>∃(bZ:W) (aL:ag) (bm:bP) (β':Nat→Value),(bZ=.own d2∧aL=(d2,c4.win bl sz (xs++bD))::σ.minus [d])∧aD bm β' bZ v∧cG G cx bm β' aL w'∧dc I bm∧(∀x,x∉[d2]→β' x=β x)∧(∀x,x∉[d,d2]→aL.get x=σ.get x)) ((execOp bp o).run G.P w):=by
  intro iF aT rE lY FI qy n2 gF;have eH:(iF++news).length=(xs++bD).length*sz:=by rw[length_append,length_append,lY,kj,Nat.add_mul]
  let bm:bP:=I.on λb o=>if b=w.heap.size then(iF++news)[o]? else I b o
  have hle:dc I bm:=λb o v ai=>by
   cases o with
   |none=>exact ai
   |some o=>
   show(if b=w.heap.size then _ else I b o)=some v;split
   ·rename_i e;subst e;rw[aA.jS (Nat.le_refl _)]at ai;cases ai
   ·exact ai
  have Nw:∀o:Nat,bm w.heap.size o=(iF++news)[o]?:=λo=>by show(if _ then _ else _)=_;rw[if_pos rfl]
  have ae1:(iF.toArray++news.toArray++Builtin.zeroCells z.cells (aT-(xs.length+bD.length))).toList=(iF++news)++(Builtin.zeroCells z.cells (aT-(xs.length+bD.length))).toList:=by simp
  refine fin _ _ w.heap.size bm gF rfl (nq _) (.inl aA.size) fresh hle (λaX h5 o=>by cases o with|none=>rfl|some o=>show(if _ then _ else _)=_;rw[if_neg h5]) (λo v ai=>?_) (aA.jS (Nat.le_refl _) none) (.inl rfl) ?_
  ·rw[Nw]at ai;have qA:=heap_alloc_new w.drew (.cells (iF.toArray++news.toArray++Builtin.zeroCells z.cells (aT-(xs.length+bD.length))) bl);have qA:(w.drew.alloc (.cells (iF.toArray++news.toArray++Builtin.zeroCells z.cells (aT-(xs.length+bD.length))) bl)).heap[w.heap.size]?=some (.cells (iF.toArray++news.toArray++Builtin.zeroCells z.cells (aT-(xs.length+bD.length))) bl (0,0)):=qA;simp only[World.cell?,qA];have cq:=(List.getElem?_eq_some_iff.1 ai).1;have:((iF.toArray++news.toArray++Builtin.zeroCells z.cells (aT-(xs.length+bD.length))).toList)[o]?=some v:=by rw[ae1,List.getElem?_append_left cq];exact ai
   rw[Array.getElem?_toList]at this;exact this
  ·simp only[br,h0];refine .inr (.inr ⟨w.heap.size,0,aT,_,by rw[length_append],by rw[length_append];exact qy,n2,heap_alloc_new w.drew _,λ_=>?_,?_,?_,λ_ o ar=>?_,.inl aA.size⟩)
   ·simp only[Array.size_append,size_toArray,size_zeroCells,xd,lY,kj,←Nat.add_mul];rw[Nat.zero_add];refine Nat.mul_le_mul_right _ ?_;omega
   ·refine AY _ 0 (iF++news) ?_ λj v ai=>by rw[Nat.zero_add,Nw];exact ai
    rw[List.flatten_append];exact ov hle _ _ ((mC _ _ _).2 ⟨_,_,rfl,rE,m8⟩)
   ·intro e he;rcases List.mem_append.1 he with he|he
    ·exact FI e he
    ·exact tH e he
   ·rw[Nw,List.getElem?_eq_none];rw[eH];omega
 have ar:=aA.dK d _ aa;simp only[br]at ar;rcases ar with q|⟨q,rfl⟩|⟨b,o0,aT,arr,ay,aG,a1,aW,bt,b1,cE,dA,ef⟩
 ·rw[q]at fU;rw[fU]at fV;simp[jX]at fV
 ·
  rcases Nat.eq_zero_or_pos bD.length with hm|hm
  ·have ak:bD=[]:=eq_nil_of_length_eq_zero hm;subst ak;refine fin (.slice none 0 0) w w.heap.size I (oS h ?_) rfl ⟨λ_ _ _=>rfl,Nat.le_refl _,rfl,rfl,rfl,Nat.le_refl _⟩ (.inl aA.size) fresh (dc.refl I) (λ_ _ _=>rfl) (λo v ai=>by rw[aA.jS (Nat.le_refl _)]at ai;cases ai) (aA.jS (Nat.le_refl _) none) (.inr rfl) ?_
   ·rw[fU,bF,q];cases a<;>simp[Builtin.append_,run_underlying aR.ia,Go.sizeOf,typeInfo,iY,Builtin.lenOf,Builtin.firstCells,loadCells,loadCellsFrom]
   ·simp only[br,h0];exact .inr (.inl ⟨trivial,rfl⟩)
  ·obtain⟨ad,rfl,lU⟩:=n4.resolve_left (by omega);have aC:=run_append_nil (P:=G.P) w T o.type bl i z aR.ia iY jB ad bD.length c news (by rw[jI];exact kj) lU hm (by simp at lZ;omega) (by simp at Y;rw[pN];omega);obtain⟨cZ,c8⟩:=tO 0 (by simp;exact hm);simp only[length_nil,Nat.zero_add]at cZ c8;have:=UZ [] (grownCap w bD.length 0 bl) rfl (by simp) (by simp) (by simpa using cZ) c8;refine this ?_;have lK:=aC;rw[←bF,show(Value.slice none 0 0)=bp s by rw[fU,q]]at lK;have:=oS h lK;simpa using this
 ·have gw:cV (β d)=some b:=by rw[ay];rfl
  by_cases rG:xs.length+bD.length≤aT
  ·rcases Nat.eq_zero_or_pos bD.length with hm|hm
   ·have ak:bD=[]:=eq_nil_of_length_eq_zero hm;subst ak;refine fin (.slice (some ⟨b,o0,none⟩) xs.length aT) w b I (oS h ?_) rfl ⟨λ_ _ _=>rfl,Nat.le_refl _,rfl,rfl,rfl,Nat.le_refl _⟩ ef (rU b gw) (dc.refl I) (λ_ _ _=>rfl) (λo v ai=>aA.good b o v ai) (aA.uZ aW) (.inl rfl) ?_
    ·rw[fU,bF,ay];cases a<;>simp[Builtin.append_,run_underlying aR.ia,Go.sizeOf,typeInfo,iY,Builtin.lenOf,Builtin.firstCells,loadCells,loadCellsFrom,aG,storeCells]
    ·simp only[br,h0,append_nil];exact .inr (.inr ⟨b,o0,aT,arr,rfl,aG,a1,aW,bt,b1,cE,dA,ef⟩)
   ·obtain⟨ad,rfl,lU⟩:=n4.resolve_left (by omega);have cq:xs.length<aT:=by omega
    have kT:=bt cq;have uM:o0+xs.length*i.size+news.length≤arr.size:=by
     rw[jI,kj,Nat.add_assoc,←Nat.add_mul];have:=Nat.mul_le_mul_right sz rG;omega
    have aC:=asT (P:=G.P) w T o.type bl i aR.ia iY b o0 xs.length aT arr aW ad bD.length c news (by rw[jI];exact kj) lU qB rG uM;rw[jI]at aC uM;have uI:o0+xs.length*sz≤arr.toList.length:=by simp only[Array.length_toList];omega
    let bm:bP:=I.on λaX o=>if aX=b∧o0+xs.length*sz≤o∧o<o0+xs.length*sz+news.length then news[o-(o0+xs.length*sz)]? else I aX o
    have pJ:=dA cq
    have hle:dc I bm:=λaX o v ai=>by
     cases o with
     |none=>exact ai
     |some o=>
     show(if aX=b∧_∧_ then _ else I aX o)=some v;split
     ·rename_i e;obtain⟨e1,e2,_⟩:=e;subst e1;rw[pJ o e2]at ai;cases ai
     ·exact ai
    have nh:∀o,((arr.toList.take (o0+xs.length*sz)++news++arr.toList.drop (o0+xs.length*sz+news.length)).toArray)[o]?=if o<o0+xs.length*sz then arr[o]? else if o<o0+xs.length*sz+news.length then news[o-(o0+xs.length*sz)]? else arr[o]?:=by
     intro o;have CH:(arr.toList.take (o0+xs.length*sz)).length=o0+xs.length*sz:=by rw[length_take,Nat.min_eq_left uI]
     rw[getElem?_toArray];by_cases aN:o<o0+xs.length*sz
     ·rw[if_pos aN,List.append_assoc,List.getElem?_append_left (by omega),getElem?_take,if_pos aN,Array.getElem?_toList]
     ·rw[if_neg aN];by_cases bw:o<o0+xs.length*sz+news.length
      ·rw[if_pos bw,List.getElem?_append_left (by rw[length_append,CH];omega),List.getElem?_append_right (by omega),CH]
      ·rw[if_neg bw,List.getElem?_append_right (by rw[length_append,CH];omega),length_append,CH,getElem?_drop,Array.getElem?_toList];congr 1;omega
    refine fin _ _ b bm (oS h (by rw[fU,bF,ay];exact aC)) rfl (hJ.setRow w b _) ef (rU b gw) hle (λaX h5 o=>by cases o with|none=>rfl|some o=>show(if _ then _ else _)=_;rw[if_neg (λe=>h5 e.1)]) (λo v ai=>?_) (aA.uZ aW) (.inl rfl) ?_
    ·simp only[World.cell?,setRow_heap w b arr _ bl _ aW];have:((arr.toList.take (o0+xs.length*sz)++news++arr.toList.drop (o0+xs.length*sz+news.length)).toArray)[o]?=some v:=by
      rw[nh]
      change (if b=b∧o0+xs.length*sz≤o∧o<o0+xs.length*sz+news.length then news[o-(o0+xs.length*sz)]? else I b o)=some v at ai
      split at ai
      ·rename_i e;rw[if_neg (by omega),if_pos e.2.2];exact ai
      ·rename_i e;have bQ:=aA.good b o v ai;simp only[World.cell?,aW]at bQ;have bQ:arr[o]?=some v:=by simpa using bQ
       split
       ·exact bQ
       ·split
        ·rename_i aN bw;exact absurd ⟨rfl,by omega,bw⟩ e
        ·exact bQ
     simpa using this
    ·simp only[br,h0];refine .inr (.inr ⟨b,o0,aT,_,by rw[length_append],by rw[length_append];exact rG,a1,setRow_heap w b arr _ bl _ aW,λ_=>?_,?_,?_,λct o ar=>?_,ef⟩)
     ·have:(arr.toList.take (o0+xs.length*sz)++news++arr.toList.drop (o0+xs.length*sz+news.length)).length=arr.toList.length:=by
       simp only[length_append,length_take,length_drop];rw[Nat.min_eq_left uI];simp only[Array.length_toList]at uI ⊢;omega
      simp only[size_toArray,this,Array.length_toList];exact kT
     ·rw[aar (λe he=>cE e he)];refine⟨AU hle _ _ _ b1,?_⟩;refine AY bD _ news (ov hle _ _ m8) λj v ai=>?_;have aY:=(List.getElem?_eq_some_iff.1 ai).1;show(if b=b∧_∧_ then _ else _)=_;rw[if_pos ⟨rfl,by omega,by omega⟩,show o0+xs.length*sz+j-(o0+xs.length*sz)=j by omega];exact ai
     ·intro e he;rcases List.mem_append.1 he with he|he
      ·exact cE e he
      ·exact tH e he
     ·rw[length_append,Nat.add_mul]at ar;show(if b=b∧_∧_ then _ else _)=_;rw[if_neg (by rw[kj];omega)];exact pJ o (by omega)
  ·
   have hm:0<bD.length:=by omega
   obtain⟨ad,rfl,lU⟩:=n4.resolve_left (by omega);obtain⟨iF,hy,fS⟩:=C8 aA.good xs o0 b1;have rF:iF.length=xs.length*sz:=by rw[oT _ _ hy];exact yK xs cE
   have aC:=run_append_grow (P:=G.P) w T o.type bl i z aR.ia iY jB ⟨b,o0,none⟩ xs.length aT iF (by rw[jI];exact rF) (λj v ai=>by rw[lG];exact fS j v ai) ad bD.length c news (by rw[jI];exact kj) lU (by omega) (by omega) (growslice_fits (by omega) (by rw[pN];exact Y));obtain⟨cZ,c8⟩:=tO aT (by omega);exact UZ _ _ hy rF cE cZ c8 (oS h (by rw[fU,bF,ay];exact aC))
def D3(d:Nat)(xs:List (List W))(ev:Operand→W)(x:Operand):W:=match ev x with
 |.own fT=>bif Nat.beq fT d then .bf false xs else .own fT
 |a=>a
def S2{d:Nat}{xs:List (List W)}{ev:Operand→W}{x:Operand}(h:ev x=.own d):D3 d xs ev x=.bf false xs:=by simp[D3,h]
def ac0{d:Nat}{xs:List (List W)}{ev:Operand→W}{x:Operand}{k:IntKind}{n:Int}(h:ev x=.int k n):D3 d xs ev x=.int k n:=by simp[D3,h]
def Yields.win{G:c7}{o:Oper}{ev:Operand→W}{σ:ag}{bZ:W}{d T sz:Nat}{xs:List (List W)}(aa:σ.get d=some (.win T sz xs))(h:Yields G o (D3 d xs ev) σ [] [] bZ):Yields G o ev σ [] [d] bZ:=
 λaL cx I β w bp cz aA hm hop=>h aL cx I β w bp (λx u=>by cases u) aA hm λx u=>by
  have bA:=hop x u;unfold D3;split
  ·rename_i fT he;rw[he]at bA;cases Y:Nat.beq fT d with
   |false=>exact bA
   |true=>
    have:=Nat.eq_of_beq_eq_true Y;subst this;exact aA.win (by rw[cz _ (by simp)];exact aa) bA
  ·exact bA
end win
def iO(w:World):bP:=λb o=>match o with
 |some o=>w.cell? ⟨b,o,none⟩
 |none=>match w.heap[b]? with
  |some (.map es clock)=>some (qe es clock)
  |_=>none
variable {w:World}
def G6(b:Nat)(o:Nat)(v:Value)(h:iO w b o=some v):w.cell? ⟨b,o,none⟩=some v:=h
def GR(b:Nat)(v:Value)(h:iO w b none=some v):∃es clock,w.heap[b]?=some (.map es clock)∧v=qe es clock:=by
 simp only[iO]at h;split at h
 ·rename_i es clock Y;cases h;exact⟨es,clock,Y,rfl⟩
 ·cases h
variable {I:bP}{cx:gj}{β:Nat→Value}
def cG.U0{G:c7}{σ:ag}(aA:cG G cx I β σ w):dc I (iO w):=λb o v ai=>by
 cases o with
 |some o=>exact aA.good b o v ai
 |none=>
  obtain⟨es,clock,h1,rfl⟩:=aA.iU b v ai;simp only[iO,h1]
def cG.ahA{G:c7}{σ:ag}(aA:cG G cx I β σ w){b:Nat}{o:nZ}{v:Value}(ai:I b o=some v):b<w.heap.size:=by
 rcases Nat.lt_or_ge b w.heap.size with h|h
 ·exact h
 ·rw[aA.jS h o]at ai;cases ai
end Go.Proofs.YtmnbolcmepihlaaGreat
namespace Go.Proofs.YtmnbolcmepihlaaGreat
section
set_option linter.all false
abbrev zI0:Value:=.int .i64 0
abbrev zS0:Value:=.slice none 0 0
open Go Go.Proofs.Tryz
set_option maxRecDepth 100000
abbrev fW(i:Nat)(c:List Value):Prop:=∀w,∃z,(zeroValue i).run prog w=.ok z w∧z.cells=c.toArray
def aoR:prog.follows .mixedOrders=true:=by kernel_rfl
def atk:fW 2 [zI0]:=λw=>⟨_,zeroValue2 w,rfl⟩
def aa1:fW 3 [zI0]:=λw=>⟨_,zeroValue3 w,rfl⟩
def aa2:fW 4 [.bool false]:=λw=>⟨_,zeroValue4 w,rfl⟩
def atv:fW 5 [.int .u8 0]:=λw=>⟨_,zeroValue5 w,rfl⟩
def atx:fW 6 [.int .u8 0]:=λw=>⟨_,zeroValue6 w,rfl⟩
def aty:fW 7 [zI0,zI0,.bool false,.int .u8 0]:=λw=>⟨_,zeroValue7 w,rfl⟩
def atE:fW 8 [zI0,zI0,.bool false,.int .u8 0]:=λw=>⟨_,zeroValue8 w,rfl⟩
def atF:fW 9 [.string ⟨#[]⟩]:=λw=>⟨_,zeroValue9 w,rfl⟩
def ata:fW 10 [.string ⟨#[]⟩]:=λw=>⟨_,zeroValue10 w,rfl⟩
def atb:fW 11 [.string ⟨#[]⟩]:=λw=>⟨_,zeroValue11 w,rfl⟩
def atc:fW 12 [.int .u64 0]:=λw=>⟨_,zeroValue12 w,rfl⟩
def atd:fW 13 [.string ⟨#[]⟩,.int .u64 0]:=λw=>⟨_,zeroValue13 w,rfl⟩
def ate:fW 14 [.string ⟨#[]⟩,.int .u64 0]:=λw=>⟨_,zeroValue14 w,rfl⟩
def atf:fW 15 [.pointer none]:=λw=>⟨_,zeroValue15 w,rfl⟩
def atg:fW 16 [.pointer none]:=λw=>⟨_,zeroValue16 w,rfl⟩
def ath:fW 17 [.pointer none]:=λw=>⟨_,zeroValue17 w,rfl⟩
def ati:fW 18 [.pointer none]:=λw=>⟨_,zeroValue18 w,rfl⟩
def atj:fW 19 [.pointer none]:=λw=>⟨_,zeroValue19 w,rfl⟩
def atl:fW 21 [.int .i32 0]:=λw=>⟨_,zeroValue21 w,rfl⟩
def Wt:fW 22 [zS0]:=λw=>⟨_,zeroValue22 w,rfl⟩
def atm:fW 23 [.pointer none]:=λw=>⟨_,zeroValue23 w,rfl⟩
def atn:fW 25 [zS0]:=λw=>⟨_,zeroValue25 w,rfl⟩
def ato:fW 26 [zS0]:=λw=>⟨_,zeroValue26 w,rfl⟩
def atp:fW 27 [zS0,zS0]:=λw=>⟨_,zeroValue27 w,rfl⟩
def Wu:fW 28 [zS0,zS0]:=λw=>⟨_,zeroValue28 w,rfl⟩
def atq:fW 30 [zI0,.bool false]:=λw=>⟨_,zeroValue30 w,rfl⟩
def Wv:fW 31 [zI0,.bool false]:=λw=>⟨_,zeroValue31 w,rfl⟩
def atr:fW 34 [zS0]:=λw=>⟨_,zeroValue34 w,rfl⟩
def att:fW 35 [zI0,zS0]:=λw=>⟨_,zeroValue35 w,rfl⟩
def Ww:fW 36 [zI0,zS0]:=λw=>⟨_,zeroValue36 w,rfl⟩
def atu:fW 37 [zI0]:=λw=>⟨_,zeroValue37 w,rfl⟩
def Wx:fW 46 [zS0]:=λw=>⟨_,zeroValue46 w,rfl⟩
def Wy:fW 48 [zS0]:=λw=>⟨_,zeroValue48 w,rfl⟩
def atw:fW 51 [zI0,zS0,zI0]:=λw=>⟨_,zeroValue51 w,rfl⟩
def Wz:fW 52 [zI0,zS0,zI0]:=λw=>⟨_,zeroValue52 w,rfl⟩
def WA:fW 53 [zS0]:=λw=>⟨_,zeroValue53 w,rfl⟩
def WB:fW 60 [zI0,zI0,zI0]:=λw=>⟨_,zeroValue60 w,rfl⟩
def WC:fW 62 [zI0,zI0,zI0,zI0,zI0]:=λw=>⟨_,zeroValue62 w,rfl⟩
def atz:fW 71 [zS0]:=λw=>⟨_,zeroValue71 w,rfl⟩
def atA:fW 72 [zS0]:=λw=>⟨_,zeroValue72 w,rfl⟩
def atB:fW 74 [zS0]:=λw=>⟨_,zeroValue74 w,rfl⟩
def atC:fW 76 [zS0]:=λw=>⟨_,zeroValue76 w,rfl⟩
def atD:fW 77 [zS0]:=λw=>⟨_,zeroValue77 w,rfl⟩
def WD:fW 84 [zI0,zI0]:=λw=>⟨_,zeroValue84 w,rfl⟩
def ajS:fW 103 [zS0,zI0]:=λw=>⟨_,zeroValue103 w,rfl⟩
def ajT:fW 105 [zS0]:=λw=>⟨_,zeroValue105 w,rfl⟩
def Vz:fW 106 [zS0]:=λw=>⟨_,zeroValue106 w,rfl⟩
def ajU:fW 111 [zS0]:=λw=>⟨_,zeroValue111 w,rfl⟩
def Il:fW 114 [zI0,zI0,zI0,zI0,zI0,zI0,zI0,zI0,zI0,zI0,zI0,zI0,zI0,zI0,zI0,zI0,zI0,zI0,zI0,zI0,zI0,zI0,zI0,zI0,zI0,zI0,zI0,zI0,zI0,zI0,zI0,zI0,zI0,zI0,zI0,zI0,zI0,zI0,zI0,zI0,zI0,zI0,zI0,zI0,zI0,zI0,zI0,zI0,zI0,zI0,zI0,zI0,zI0,zI0,zI0,zI0,zI0,zI0,zI0,zI0,zI0,zI0,zI0,zI0,zI0,zI0,zI0,zI0,zI0,zI0,zI0,zI0,zI0,zI0,zI0,zI0,zI0,zI0,zI0,zI0,zI0,zI0,zI0,zI0,zI0,zI0,zI0,zI0,zI0,zI0,zI0,zI0,zI0,zI0,zI0,zI0,zI0,zI0,zI0,zI0]:=λw=>⟨_,zeroValue114 w,rfl⟩
def ajV:fW 125 [.map none]:=λw=>⟨_,zeroValue125 w,rfl⟩
def ajW:fW 126 [.map none]:=λw=>⟨_,zeroValue126 w,rfl⟩
def VA:fW 144 [.map none]:=λw=>⟨_,zeroValue144 w,rfl⟩
def ajX:fW 158 [.nilFunc]:=λw=>⟨_,zeroValue158 w,rfl⟩
def ajY:fW 161 [.pointer none]:=λw=>⟨_,zeroValue161 w,rfl⟩
def ajZ:fW 162 [zS0]:=λw=>⟨_,zeroValue162 w,rfl⟩
def aj0:fW 163 [zS0]:=λw=>⟨_,zeroValue163 w,rfl⟩
def aj1:fW 165 [zS0,zS0,zS0]:=λw=>⟨_,zeroValue165 w,rfl⟩
def VB:fW 166 [.map none]:=λw=>⟨_,zeroValue166 w,rfl⟩
def ajg:fW 169 [zI0,zI0]:=λw=>⟨_,zeroValue169 w,rfl⟩
def ajh:fW 172 [.nilFunc]:=λw=>⟨_,zeroValue172 w,rfl⟩
def VC:fW 175 [zI0,zI0,zI0]:=λw=>⟨_,zeroValue175 w,rfl⟩
def aji:fW 177 [.nilFunc]:=λw=>⟨_,zeroValue177 w,rfl⟩
def ajj:fW 178 [.int .u64 0]:=λw=>⟨_,zeroValue178 w,rfl⟩
def ajk:fW 182 [.nilFunc]:=λw=>⟨_,zeroValue182 w,rfl⟩
def ajl:fW 185 [.nilFunc]:=λw=>⟨_,zeroValue185 w,rfl⟩
def ajm:fW 187 [.nilFunc]:=λw=>⟨_,zeroValue187 w,rfl⟩
def ajn:fW 188 [.nilFunc]:=λw=>⟨_,zeroValue188 w,rfl⟩
def ajo:fW 190 [.nilFunc]:=λw=>⟨_,zeroValue190 w,rfl⟩
def ajp:fW 191 [.map none]:=λw=>⟨_,zeroValue191 w,rfl⟩
def ajq:fW 198 [.nilFunc]:=λw=>⟨_,zeroValue198 w,rfl⟩
def ajr:fW 245 [zI0]:=λw=>⟨_,zeroValue245 w,rfl⟩
def ajs:fW 252 [.int .u32 0]:=λw=>⟨_,zeroValue252 w,rfl⟩
def ajt:fW 254 [.int .u64 0]:=λw=>⟨_,zeroValue254 w,rfl⟩
def Rf:dS prog 2 1 false:=⟨sizeOf2,isAgg2⟩
def hQ:dS prog 3 1 false:=⟨sizeOf3,isAgg3⟩
def G9:dS prog 4 1 false:=⟨sizeOf4,isAgg4⟩
def asb:dS prog 5 1 false:=⟨sizeOf5,isAgg5⟩
def Rg:dS prog 6 1 false:=⟨sizeOf6,isAgg6⟩
def ash:dS prog 7 4 true:=⟨sizeOf7,isAgg7⟩
def aqY:lN prog 7 [zI0,zI0,.bool false,.int .u8 0] [(0,1),(1,1),(2,1),(3,1)]:=nP zeroValue7 underlying7 (λw=>by kernel_rfl)
def ahB:hb prog 7 0 0:=⟨λa w=>by kernel_rfl⟩
def ahC:hb prog 7 1 1:=⟨λa w=>by kernel_rfl⟩
def ahD:hb prog 7 2 2:=⟨λa w=>by kernel_rfl⟩
def ahE:hb prog 7 3 3:=⟨λa w=>by kernel_rfl⟩
def ahF:g7 prog 7 0 0 1 false:=hC underlying7 (by kernel_rfl) Rf (by decide)
def ahG:g7 prog 7 1 1 1 false:=hC underlying7 (by kernel_rfl) hQ (by decide)
def ahH:g7 prog 7 2 2 1 false:=hC underlying7 (by kernel_rfl) G9 (by decide)
def ahI:g7 prog 7 3 3 1 false:=hC underlying7 (by kernel_rfl) Rg (by decide)
def aso:dS prog 8 4 true:=⟨sizeOf8,isAgg8⟩
def aqZ:lN prog 8 [zI0,zI0,.bool false,.int .u8 0] [(0,1),(1,1),(2,1),(3,1)]:=nP zeroValue8 underlying8 (λw=>by kernel_rfl)
def ahJ:hb prog 8 0 0:=⟨λa w=>by kernel_rfl⟩
def ahK:hb prog 8 1 1:=⟨λa w=>by kernel_rfl⟩
def aha:hb prog 8 2 2:=⟨λa w=>by kernel_rfl⟩
def ahb:hb prog 8 3 3:=⟨λa w=>by kernel_rfl⟩
def ahc:g7 prog 8 0 0 1 false:=hC underlying8 (by kernel_rfl) Rf (by decide)
def ahd:g7 prog 8 1 1 1 false:=hC underlying8 (by kernel_rfl) hQ (by decide)
def ahe:g7 prog 8 2 2 1 false:=hC underlying8 (by kernel_rfl) G9 (by decide)
def ahf:g7 prog 8 3 3 1 false:=hC underlying8 (by kernel_rfl) Rg (by decide)
def Rh:dS prog 9 1 false:=⟨sizeOf9,isAgg9⟩
def arS:dS prog 10 1 false:=⟨sizeOf10,isAgg10⟩
def arT:dS prog 11 1 false:=⟨sizeOf11,isAgg11⟩
def NW:dS prog 12 1 false:=⟨sizeOf12,isAgg12⟩
def arU:dS prog 13 2 true:=⟨sizeOf13,isAgg13⟩
def aju:lN prog 13 [.string ⟨#[]⟩,.int .u64 0] [(0,1),(1,1)]:=nP zeroValue13 underlying13 (λw=>by kernel_rfl)
def ae2:hb prog 13 0 0:=⟨λa w=>by kernel_rfl⟩
def ae3:hb prog 13 1 1:=⟨λa w=>by kernel_rfl⟩
def ae4:g7 prog 13 0 0 1 false:=hC underlying13 (by kernel_rfl) Rh (by decide)
def aeE:g7 prog 13 1 1 1 false:=hC underlying13 (by kernel_rfl) NW (by decide)
def arV:dS prog 14 2 true:=⟨sizeOf14,isAgg14⟩
def ajv:lN prog 14 [.string ⟨#[]⟩,.int .u64 0] [(0,1),(1,1)]:=nP zeroValue14 underlying14 (λw=>by kernel_rfl)
def aeF:hb prog 14 0 0:=⟨λa w=>by kernel_rfl⟩
def aeG:hb prog 14 1 1:=⟨λa w=>by kernel_rfl⟩
def aeH:g7 prog 14 0 0 1 false:=hC underlying14 (by kernel_rfl) Rh (by decide)
def aeI:g7 prog 14 1 1 1 false:=hC underlying14 (by kernel_rfl) NW (by decide)
def arW:dS prog 15 1 false:=⟨sizeOf15,isAgg15⟩
def arX:dS prog 16 1 false:=⟨sizeOf16,isAgg16⟩
def NX:dS prog 17 1 false:=⟨sizeOf17,isAgg17⟩
def arY:dS prog 18 1 true:=⟨sizeOf18,isAgg18⟩
def ajw:lN prog 18 [.pointer none] [(0,1)]:=nP zeroValue18 underlying18 (λw=>by kernel_rfl)
def aeJ:hb prog 18 0 0:=⟨λa w=>by kernel_rfl⟩
def aeK:g7 prog 18 0 0 1 false:=hC underlying18 (by kernel_rfl) NX (by decide)
def arZ:dS prog 19 1 true:=⟨sizeOf19,isAgg19⟩
def ajx:lN prog 19 [.pointer none] [(0,1)]:=nP zeroValue19 underlying19 (λw=>by kernel_rfl)
def aeL:hb prog 19 0 0:=⟨λa w=>by kernel_rfl⟩
def aeM:g7 prog 19 0 0 1 false:=hC underlying19 (by kernel_rfl) NX (by decide)
def ar0:dS prog 21 1 false:=⟨sizeOf21,isAgg21⟩
def nj:dS prog 22 1 false:=⟨sizeOf22,isAgg22⟩
def qQ:ji prog 22 3 1:=⟨underlying22,sizeOf3⟩
def Et:jy prog 22 3 1 8:=⟨underlying22,(by obtain⟨i,h1,D,aj,aV⟩:=info_parts (by kernel_rfl:(prog.info? 3).map (λi=>(i.zero,i.size,i.bytes))=some (some (zI0),1,8));exact⟨i,_,h1,D,aj,aV,rfl⟩),by decide⟩
def Im:kz prog 22 3 1 [zI0]:=⟨underlying22,sizeOf3,aa1,rfl⟩
def ar1:dS prog 23 1 false:=⟨sizeOf23,isAgg23⟩
def NY:dS prog 25 1 false:=⟨sizeOf25,isAgg25⟩
def aqM:ji prog 25 31 2:=⟨underlying25,sizeOf31⟩
def ajy:jy prog 25 31 2 16:=⟨underlying25,(by obtain⟨i,h1,D,aj,aV⟩:=info_parts (by kernel_rfl:(prog.info? 31).map (λi=>(i.zero,i.size,i.bytes))=some (some (.agg #[zI0,.bool false]),2,16));exact⟨i,_,h1,D,aj,aV,rfl⟩),by decide⟩
def ajz:kz prog 25 31 2 [zI0,.bool false]:=⟨underlying25,sizeOf31,Wv,rfl⟩
def NZ:dS prog 26 1 false:=⟨sizeOf26,isAgg26⟩
def aqN:ji prog 26 62 5:=⟨underlying26,sizeOf62⟩
def ajA:jy prog 26 62 5 40:=⟨underlying26,(by obtain⟨i,h1,D,aj,aV⟩:=info_parts (by kernel_rfl:(prog.info? 62).map (λi=>(i.zero,i.size,i.bytes))=some (some (.agg #[zI0,zI0,zI0,zI0,zI0]),5,40));exact⟨i,_,h1,D,aj,aV,rfl⟩),by decide⟩
def ajB:kz prog 26 62 5 [zI0,zI0,zI0,zI0,zI0]:=⟨underlying26,sizeOf62,WC,rfl⟩
def ar2:dS prog 27 2 true:=⟨sizeOf27,isAgg27⟩
def ajC:lN prog 27 [zS0,zS0] [(0,1),(1,1)]:=nP zeroValue27 underlying27 (λw=>by kernel_rfl)
def aeN:hb prog 27 0 0:=⟨λa w=>by kernel_rfl⟩
def afG:hb prog 27 1 1:=⟨λa w=>by kernel_rfl⟩
def afH:g7 prog 27 0 0 1 false:=hC underlying27 (by kernel_rfl) NY (by decide)
def afI:g7 prog 27 1 1 1 false:=hC underlying27 (by kernel_rfl) NZ (by decide)
def ar3:dS prog 28 2 true:=⟨sizeOf28,isAgg28⟩
def ajD:lN prog 28 [zS0,zS0] [(0,1),(1,1)]:=nP zeroValue28 underlying28 (λw=>by kernel_rfl)
def afJ:hb prog 28 0 0:=⟨λa w=>by kernel_rfl⟩
def afK:hb prog 28 1 1:=⟨λa w=>by kernel_rfl⟩
def afL:g7 prog 28 0 0 1 false:=hC underlying28 (by kernel_rfl) NY (by decide)
def afM:g7 prog 28 1 1 1 false:=hC underlying28 (by kernel_rfl) NZ (by decide)
def ar4:dS prog 30 2 true:=⟨sizeOf30,isAgg30⟩
def ajE:lN prog 30 [zI0,.bool false] [(0,1),(1,1)]:=nP zeroValue30 underlying30 (λw=>by kernel_rfl)
def afN:hb prog 30 0 0:=⟨λa w=>by kernel_rfl⟩
def afO:hb prog 30 1 1:=⟨λa w=>by kernel_rfl⟩
def afP:g7 prog 30 0 0 1 false:=hC underlying30 (by kernel_rfl) hQ (by decide)
def afQ:g7 prog 30 1 1 1 false:=hC underlying30 (by kernel_rfl) G9 (by decide)
def ar5:dS prog 31 2 true:=⟨sizeOf31,isAgg31⟩
def ajF:lN prog 31 [zI0,.bool false] [(0,1),(1,1)]:=nP zeroValue31 underlying31 (λw=>by kernel_rfl)
def afR:hb prog 31 0 0:=⟨λa w=>by kernel_rfl⟩
def afS:hb prog 31 1 1:=⟨λa w=>by kernel_rfl⟩
def afT:g7 prog 31 0 0 1 false:=hC underlying31 (by kernel_rfl) hQ (by decide)
def afU:g7 prog 31 1 1 1 false:=hC underlying31 (by kernel_rfl) G9 (by decide)
def N0:dS prog 34 1 false:=⟨sizeOf34,isAgg34⟩
def aqO:ji prog 34 84 2:=⟨underlying34,sizeOf84⟩
def ai7:jy prog 34 84 2 16:=⟨underlying34,(by obtain⟨i,h1,D,aj,aV⟩:=info_parts (by kernel_rfl:(prog.info? 84).map (λi=>(i.zero,i.size,i.bytes))=some (some (.agg #[zI0,zI0]),2,16));exact⟨i,_,h1,D,aj,aV,rfl⟩),by decide⟩
def ai8:kz prog 34 84 2 [zI0,zI0]:=⟨underlying34,sizeOf84,WD,rfl⟩
def ar6:dS prog 35 2 true:=⟨sizeOf35,isAgg35⟩
def ai9:lN prog 35 [zI0,zS0] [(0,1),(1,1)]:=nP zeroValue35 underlying35 (λw=>by kernel_rfl)
def afV:hb prog 35 0 0:=⟨λa w=>by kernel_rfl⟩
def afW:hb prog 35 1 1:=⟨λa w=>by kernel_rfl⟩
def afX:g7 prog 35 0 0 1 false:=hC underlying35 (by kernel_rfl) hQ (by decide)
def afY:g7 prog 35 1 1 1 false:=hC underlying35 (by kernel_rfl) N0 (by decide)
def ar7:dS prog 36 2 true:=⟨sizeOf36,isAgg36⟩
def aja:lN prog 36 [zI0,zS0] [(0,1),(1,1)]:=nP zeroValue36 underlying36 (λw=>by kernel_rfl)
def afZ:hb prog 36 0 0:=⟨λa w=>by kernel_rfl⟩
def af0:hb prog 36 1 1:=⟨λa w=>by kernel_rfl⟩
def af1:g7 prog 36 0 0 1 false:=hC underlying36 (by kernel_rfl) hQ (by decide)
def af2:g7 prog 36 1 1 1 false:=hC underlying36 (by kernel_rfl) N0 (by decide)
def ar8:dS prog 37 1 false:=⟨sizeOf37,isAgg37⟩
def ar9:dS prog 46 1 false:=⟨sizeOf46,isAgg46⟩
def aqP:ji prog 46 52 3:=⟨underlying46,sizeOf52⟩
def ajb:jy prog 46 52 3 40:=⟨underlying46,(by obtain⟨i,h1,D,aj,aV⟩:=info_parts (by kernel_rfl:(prog.info? 52).map (λi=>(i.zero,i.size,i.bytes))=some (some (.agg #[zI0,zS0,zI0]),3,40));exact⟨i,_,h1,D,aj,aV,rfl⟩),by decide⟩
def ajc:kz prog 46 52 3 [zI0,zS0,zI0]:=⟨underlying46,sizeOf52,Wz,rfl⟩
def asa:dS prog 48 1 false:=⟨sizeOf48,isAgg48⟩
def aqQ:ji prog 48 36 2:=⟨underlying48,sizeOf36⟩
def VD:jy prog 48 36 2 32:=⟨underlying48,(by obtain⟨i,h1,D,aj,aV⟩:=info_parts (by kernel_rfl:(prog.info? 36).map (λi=>(i.zero,i.size,i.bytes))=some (some (.agg #[zI0,zS0]),2,32));exact⟨i,_,h1,D,aj,aV,rfl⟩),by decide⟩
def VE:kz prog 48 36 2 [zI0,zS0]:=⟨underlying48,sizeOf36,Ww,rfl⟩
def asc:dS prog 51 3 true:=⟨sizeOf51,isAgg51⟩
def ajd:lN prog 51 [zI0,zS0,zI0] [(0,1),(1,1),(2,1)]:=nP zeroValue51 underlying51 (λw=>by kernel_rfl)
def af3:hb prog 51 0 0:=⟨λa w=>by kernel_rfl⟩
def af4:hb prog 51 1 1:=⟨λa w=>by kernel_rfl⟩
def af5:hb prog 51 2 2:=⟨λa w=>by kernel_rfl⟩
def afg:g7 prog 51 0 0 1 false:=hC underlying51 (by kernel_rfl) hQ (by decide)
def afh:g7 prog 51 1 1 1 false:=hC underlying51 (by kernel_rfl) nj (by decide)
def afi:g7 prog 51 2 2 1 false:=hC underlying51 (by kernel_rfl) hQ (by decide)
def asd:dS prog 52 3 true:=⟨sizeOf52,isAgg52⟩
def aje:lN prog 52 [zI0,zS0,zI0] [(0,1),(1,1),(2,1)]:=nP zeroValue52 underlying52 (λw=>by kernel_rfl)
def afj:hb prog 52 0 0:=⟨λa w=>by kernel_rfl⟩
def afk:hb prog 52 1 1:=⟨λa w=>by kernel_rfl⟩
def afl:hb prog 52 2 2:=⟨λa w=>by kernel_rfl⟩
def afm:g7 prog 52 0 0 1 false:=hC underlying52 (by kernel_rfl) hQ (by decide)
def afn:g7 prog 52 1 1 1 false:=hC underlying52 (by kernel_rfl) nj (by decide)
def afo:g7 prog 52 2 2 1 false:=hC underlying52 (by kernel_rfl) hQ (by decide)
def ase:dS prog 53 1 false:=⟨sizeOf53,isAgg53⟩
def aqR:ji prog 53 60 3:=⟨underlying53,sizeOf60⟩
def ajf:jy prog 53 60 3 24:=⟨underlying53,(by obtain⟨i,h1,D,aj,aV⟩:=info_parts (by kernel_rfl:(prog.info? 60).map (λi=>(i.zero,i.size,i.bytes))=some (some (.agg #[zI0,zI0,zI0]),3,24));exact⟨i,_,h1,D,aj,aV,rfl⟩),by decide⟩
def akz:kz prog 53 60 3 [zI0,zI0,zI0]:=⟨underlying53,sizeOf60,WB,rfl⟩
def asf:dS prog 60 3 true:=⟨sizeOf60,isAgg60⟩
def akA:lN prog 60 [zI0,zI0,zI0] [(0,1),(1,1),(2,1)]:=nP zeroValue60 underlying60 (λw=>by kernel_rfl)
def afp:hb prog 60 0 0:=⟨λa w=>by kernel_rfl⟩
def afq:hb prog 60 1 1:=⟨λa w=>by kernel_rfl⟩
def afr:hb prog 60 2 2:=⟨λa w=>by kernel_rfl⟩
def afs:g7 prog 60 0 0 1 false:=hC underlying60 (by kernel_rfl) hQ (by decide)
def aft:g7 prog 60 1 1 1 false:=hC underlying60 (by kernel_rfl) hQ (by decide)
def afu:g7 prog 60 2 2 1 false:=hC underlying60 (by kernel_rfl) hQ (by decide)
def akB(a0 oq:Int)(g6 dI:Int)(a2 ek:Int)(w:World):(Op.eqFields 9999 #[.int .i64 a0,.int .i64 g6,.int .i64 a2] #[.int .i64 oq,.int .i64 dI,.int .i64 ek] (prog.fieldsOf 60).toList).run prog w=.ok (decide (a0=oq)&&(decide (g6=dI)&&(decide (a2=ek)&&true))) w:=by
 have bc:(prog.fieldsOf 60).toList.map (λf=>(f.name== "_",f.type,f.offset))=[(false,3,0),(false,3,1),(false,3,2)]:=by kernel_rfl
 have q:(Op.eqFields 9999 #[.int .i64 a0,.int .i64 g6,.int .i64 a2] #[.int .i64 oq,.int .i64 dI,.int .i64 ek] (prog.fieldsOf 60).toList).run prog w=.ok (decide (a0=oq)&&(decide (g6=dI)&&(decide (a2=ek)&&true))) w:=by
  obtain⟨f0,t0,e0,bA,bc⟩:=GI bc;obtain⟨f1,t1,e1,h1,bc⟩:=GI bc;obtain⟨f2,t2,e2,D,bc⟩:=GI bc;rw[e0,e1,e2,Sy bc];exact Ho bA isAgg3 underlying3 rfl rfl (Ho h1 isAgg3 underlying3 rfl rfl (Ho D isAgg3 underlying3 rfl rfl (Uy)))
 exact q
def adp(x y:Operand)(a0 oq:Int)(g6 dI:Int)(a2 ek:Int)(w:World):(do eqGuard .neq 60 x y (.agg #[.int .i64 a0,.int .i64 g6,.int .i64 a2]) (.agg #[.int .i64 oq,.int .i64 dI,.int .i64 ek]);binOp .neq 60 (.agg #[.int .i64 a0,.int .i64 g6,.int .i64 a2]) (.agg #[.int .i64 oq,.int .i64 dI,.int .i64 ek]):Sem Value).run prog w=.ok (.bool (!(decide (a0=oq)&&(decide (g6=dI)&&(decide (a2=ek)&&true))))) w:=aeY _ _ _ x y (by kernel_rfl) (by kernel_rfl) (by kernel_rfl) (akB a0 oq g6 dI a2 ek w)
def asg:dS prog 62 5 true:=⟨sizeOf62,isAgg62⟩
def akC:lN prog 62 [zI0,zI0,zI0,zI0,zI0] [(0,1),(1,1),(2,1),(3,1),(4,1)]:=nP zeroValue62 underlying62 (λw=>by kernel_rfl)
def afv:hb prog 62 0 0:=⟨λa w=>by kernel_rfl⟩
def afw:hb prog 62 1 1:=⟨λa w=>by kernel_rfl⟩
def afx:hb prog 62 2 2:=⟨λa w=>by kernel_rfl⟩
def afy:hb prog 62 3 3:=⟨λa w=>by kernel_rfl⟩
def afz:hb prog 62 4 4:=⟨λa w=>by kernel_rfl⟩
def afA:g7 prog 62 0 0 1 false:=hC underlying62 (by kernel_rfl) hQ (by decide)
def afB:g7 prog 62 1 1 1 false:=hC underlying62 (by kernel_rfl) hQ (by decide)
def afC:g7 prog 62 2 2 1 false:=hC underlying62 (by kernel_rfl) hQ (by decide)
def afD:g7 prog 62 3 3 1 false:=hC underlying62 (by kernel_rfl) hQ (by decide)
def afE:g7 prog 62 4 4 1 false:=hC underlying62 (by kernel_rfl) hQ (by decide)
def asi:dS prog 71 1 false:=⟨sizeOf71,isAgg71⟩
def aqS:ji prog 71 28 2:=⟨underlying71,sizeOf28⟩
def akD:jy prog 71 28 2 48:=⟨underlying71,(by obtain⟨i,h1,D,aj,aV⟩:=info_parts (by kernel_rfl:(prog.info? 28).map (λi=>(i.zero,i.size,i.bytes))=some (some (.agg #[zS0,zS0]),2,48));exact⟨i,_,h1,D,aj,aV,rfl⟩),by decide⟩
def akE:kz prog 71 28 2 [zS0,zS0]:=⟨underlying71,sizeOf28,Wu,rfl⟩
def asj:dS prog 72 1 false:=⟨sizeOf72,isAgg72⟩
def aqT:ji prog 72 46 1:=⟨underlying72,sizeOf46⟩
def akF:jy prog 72 46 1 24:=⟨underlying72,(by obtain⟨i,h1,D,aj,aV⟩:=info_parts (by kernel_rfl:(prog.info? 46).map (λi=>(i.zero,i.size,i.bytes))=some (some (zS0),1,24));exact⟨i,_,h1,D,aj,aV,rfl⟩),by decide⟩
def akG:kz prog 72 46 1 [zS0]:=⟨underlying72,sizeOf46,Wx,rfl⟩
def asl:dS prog 74 1 false:=⟨sizeOf74,isAgg74⟩
def aqU:ji prog 74 48 1:=⟨underlying74,sizeOf48⟩
def akH:jy prog 74 48 1 24:=⟨underlying74,(by obtain⟨i,h1,D,aj,aV⟩:=info_parts (by kernel_rfl:(prog.info? 48).map (λi=>(i.zero,i.size,i.bytes))=some (some (zS0),1,24));exact⟨i,_,h1,D,aj,aV,rfl⟩),by decide⟩
def akI:kz prog 74 48 1 [zS0]:=⟨underlying74,sizeOf48,Wy,rfl⟩
def asm:dS prog 76 1 false:=⟨sizeOf76,isAgg76⟩
def nR:ji prog 76 22 1:=⟨underlying76,sizeOf22⟩
def Nx:jy prog 76 22 1 24:=⟨underlying76,(by obtain⟨i,h1,D,aj,aV⟩:=info_parts (by kernel_rfl:(prog.info? 22).map (λi=>(i.zero,i.size,i.bytes))=some (some (zS0),1,24));exact⟨i,_,h1,D,aj,aV,rfl⟩),by decide⟩
def Ny:kz prog 76 22 1 [zS0]:=⟨underlying76,sizeOf22,Wt,rfl⟩
def asn:dS prog 77 1 false:=⟨sizeOf77,isAgg77⟩
def aqV:ji prog 77 53 1:=⟨underlying77,sizeOf53⟩
def akJ:jy prog 77 53 1 24:=⟨underlying77,(by obtain⟨i,h1,D,aj,aV⟩:=info_parts (by kernel_rfl:(prog.info? 53).map (λi=>(i.zero,i.size,i.bytes))=some (some (zS0),1,24));exact⟨i,_,h1,D,aj,aV,rfl⟩),by decide⟩
def akK:kz prog 77 53 1 [zS0]:=⟨underlying77,sizeOf53,WA,rfl⟩
def Wp:dS prog 84 2 true:=⟨sizeOf84,isAgg84⟩
def akL:lN prog 84 [zI0,zI0] [(0,1),(1,1)]:=nP zeroValue84 underlying84 (λw=>by kernel_rfl)
def afF:hb prog 84 0 0:=⟨λa w=>by kernel_rfl⟩
def ae6:hb prog 84 1 1:=⟨λa w=>by kernel_rfl⟩
def ae7:g7 prog 84 0 0 1 false:=hC underlying84 (by kernel_rfl) hQ (by decide)
def ae8:g7 prog 84 1 1 1 false:=hC underlying84 (by kernel_rfl) hQ (by decide)
def D4(a0 oq:Int)(g6 dI:Int)(w:World):(Op.eqFields 9999 #[.int .i64 a0,.int .i64 g6] #[.int .i64 oq,.int .i64 dI] (prog.fieldsOf 84).toList).run prog w=.ok (decide (a0=oq)&&(decide (g6=dI)&&true)) w:=by
 have bc:(prog.fieldsOf 84).toList.map (λf=>(f.name== "_",f.type,f.offset))=[(false,3,0),(false,3,1)]:=by kernel_rfl
 have q:(Op.eqFields 9999 #[.int .i64 a0,.int .i64 g6] #[.int .i64 oq,.int .i64 dI] (prog.fieldsOf 84).toList).run prog w=.ok (decide (a0=oq)&&(decide (g6=dI)&&true)) w:=by
  obtain⟨f0,t0,e0,bA,bc⟩:=GI bc;obtain⟨f1,t1,e1,h1,bc⟩:=GI bc;rw[e0,e1,Sy bc];exact Ho bA isAgg3 underlying3 rfl rfl (Ho h1 isAgg3 underlying3 rfl rfl (Uy))
 exact q
def akM:dS prog 103 2 true:=⟨sizeOf103,isAgg103⟩
def ahg:lN prog 103 [zS0,zI0] [(0,1),(1,1)]:=nP zeroValue103 underlying103 (λw=>by kernel_rfl)
def adq:hb prog 103 0 0:=⟨λa w=>by kernel_rfl⟩
def adr:hb prog 103 1 1:=⟨λa w=>by kernel_rfl⟩
def ads:g7 prog 103 0 0 1 false:=hC underlying103 (by kernel_rfl) nj (by decide)
def adt:g7 prog 103 1 1 1 false:=hC underlying103 (by kernel_rfl) hQ (by decide)
def akN:dS prog 105 1 false:=⟨sizeOf105,isAgg105⟩
def zk:ji prog 105 106 1:=⟨underlying105,sizeOf106⟩
def U1:jy prog 105 106 1 24:=⟨underlying105,(by obtain⟨i,h1,D,aj,aV⟩:=info_parts (by kernel_rfl:(prog.info? 106).map (λi=>(i.zero,i.size,i.bytes))=some (some (zS0),1,24));exact⟨i,_,h1,D,aj,aV,rfl⟩),by decide⟩
def U2:kz prog 105 106 1 [zS0]:=⟨underlying105,sizeOf106,Vz,rfl⟩
def Eu:dS prog 106 1 false:=⟨sizeOf106,isAgg106⟩
def akO:ji prog 106 4 1:=⟨underlying106,sizeOf4⟩
def U3:jy prog 106 4 1 1:=⟨underlying106,(by obtain⟨i,h1,D,aj,aV⟩:=info_parts (by kernel_rfl:(prog.info? 4).map (λi=>(i.zero,i.size,i.bytes))=some (some (.bool false),1,1));exact⟨i,_,h1,D,aj,aV,rfl⟩),by decide⟩
def U4:kz prog 106 4 1 [.bool false]:=⟨underlying106,sizeOf4,aa2,rfl⟩
def VF:dS prog 111 1 false:=⟨sizeOf111,isAgg111⟩
def Nz:ji prog 111 175 3:=⟨underlying111,sizeOf175⟩
def ahh:jy prog 111 175 3 24:=⟨underlying111,(by obtain⟨i,h1,D,aj,aV⟩:=info_parts (by kernel_rfl:(prog.info? 175).map (λi=>(i.zero,i.size,i.bytes))=some (some (.agg #[zI0,zI0,zI0]),3,24));exact⟨i,_,h1,D,aj,aV,rfl⟩),by decide⟩
def ahi:kz prog 111 175 3 [zI0,zI0,zI0]:=⟨underlying111,sizeOf175,VC,rfl⟩
def Ev:dS prog 114 100 true:=⟨sizeOf114,isAgg114⟩
def akP:dS prog 125 1 false:=⟨sizeOf125,isAgg125⟩
def akQ:dS prog 126 1 false:=⟨sizeOf126,isAgg126⟩
def Ei:dS prog 144 1 false:=⟨sizeOf144,isAgg144⟩
def HW:r2 prog 144 3 3 .i64:=⟨underlying144,underlying3⟩
def akR:dS prog 158 1 false:=⟨sizeOf158,isAgg158⟩
def akS:dS prog 161 1 false:=⟨sizeOf161,isAgg161⟩
def VG:dS prog 162 1 false:=⟨sizeOf162,isAgg162⟩
def Ej:ji prog 162 144 1:=⟨underlying162,sizeOf144⟩
def U5:jy prog 162 144 1 8:=⟨underlying162,(by obtain⟨i,h1,D,aj,aV⟩:=info_parts (by kernel_rfl:(prog.info? 144).map (λi=>(i.zero,i.size,i.bytes))=some (some (.map none),1,8));exact⟨i,_,h1,D,aj,aV,rfl⟩),by decide⟩
def ahj:kz prog 162 144 1 [.map none]:=⟨underlying162,sizeOf144,VA,rfl⟩
def VH:dS prog 163 1 false:=⟨sizeOf163,isAgg163⟩
def VI:ji prog 163 166 1:=⟨underlying163,sizeOf166⟩
def U6:jy prog 163 166 1 8:=⟨underlying163,(by obtain⟨i,h1,D,aj,aV⟩:=info_parts (by kernel_rfl:(prog.info? 166).map (λi=>(i.zero,i.size,i.bytes))=some (some (.map none),1,8));exact⟨i,_,h1,D,aj,aV,rfl⟩),by decide⟩
def ahk:kz prog 163 166 1 [.map none]:=⟨underlying163,sizeOf166,VB,rfl⟩
def akT:dS prog 165 3 true:=⟨sizeOf165,isAgg165⟩
def ahl:lN prog 165 [zS0,zS0,zS0] [(0,1),(1,1),(2,1)]:=nP zeroValue165 underlying165 (λw=>by kernel_rfl)
def adu:hb prog 165 0 0:=⟨λa w=>by kernel_rfl⟩
def adv:hb prog 165 1 1:=⟨λa w=>by kernel_rfl⟩
def adw:hb prog 165 2 2:=⟨λa w=>by kernel_rfl⟩
def ac4:g7 prog 165 0 0 1 false:=hC underlying165 (by kernel_rfl) VF (by decide)
def ac5:g7 prog 165 1 1 1 false:=hC underlying165 (by kernel_rfl) VG (by decide)
def ac6:g7 prog 165 2 2 1 false:=hC underlying165 (by kernel_rfl) VH (by decide)
def VJ:dS prog 166 1 false:=⟨sizeOf166,isAgg166⟩
def HB:r2 prog 166 3 169 .i64:=⟨underlying166,underlying3⟩
def akU:dS prog 169 2 true:=⟨sizeOf169,isAgg169⟩
def ahm:lN prog 169 [zI0,zI0] [(0,1),(1,1)]:=nP zeroValue169 underlying169 (λw=>by kernel_rfl)
def ac7:hb prog 169 0 0:=⟨λa w=>by kernel_rfl⟩
def ac8:hb prog 169 1 1:=⟨λa w=>by kernel_rfl⟩
def ac9:g7 prog 169 0 0 1 false:=hC underlying169 (by kernel_rfl) hQ (by decide)
def ada:g7 prog 169 1 1 1 false:=hC underlying169 (by kernel_rfl) hQ (by decide)
def akV:dS prog 172 1 false:=⟨sizeOf172,isAgg172⟩
def akW:dS prog 175 3 true:=⟨sizeOf175,isAgg175⟩
def ahn:lN prog 175 [zI0,zI0,zI0] [(0,2),(2,1)]:=nP zeroValue175 underlying175 (λw=>by kernel_rfl)
def adb:hb prog 175 0 0:=⟨λa w=>by kernel_rfl⟩
def ade:hb prog 175 1 2:=⟨λa w=>by kernel_rfl⟩
def adf:g7 prog 175 0 0 2 true:=hC underlying175 (by kernel_rfl) Wp (by decide)
def ad0:g7 prog 175 1 2 1 false:=hC underlying175 (by kernel_rfl) hQ (by decide)
def akX:dS prog 177 1 false:=⟨sizeOf177,isAgg177⟩
def akb:dS prog 178 1 false:=⟨sizeOf178,isAgg178⟩
def akc:dS prog 182 1 false:=⟨sizeOf182,isAgg182⟩
def akd:dS prog 185 1 false:=⟨sizeOf185,isAgg185⟩
def ake:dS prog 187 1 false:=⟨sizeOf187,isAgg187⟩
def akf:dS prog 188 1 false:=⟨sizeOf188,isAgg188⟩
def akg:dS prog 190 1 false:=⟨sizeOf190,isAgg190⟩
def akh:dS prog 191 1 false:=⟨sizeOf191,isAgg191⟩
def U7:r2 prog 191 3 4 .i64:=⟨underlying191,underlying3⟩
def aki:dS prog 198 1 false:=⟨sizeOf198,isAgg198⟩
def akj:dS prog 245 1 false:=⟨sizeOf245,isAgg245⟩
def akk:dS prog 252 1 false:=⟨sizeOf252,isAgg252⟩
def akl:dS prog 254 1 false:=⟨sizeOf254,isAgg254⟩
end
section
set_option linter.all false
open Go List
section
def aB{α β:Type}(o:Option α)(k:α→Option β):Option β:=match o with|none=>none|some a=>k a
def hU{β:Type}(c:Bool)(k:Option β):Option β:=bif c then k else none
def jn{σ β:Type}(k:σ→Option β)(t:(σ→Option β)→Option β):Option β:=t k
def cK{α σ β:Type}:List α→Nat→(Int→α→(σ→Option β)→σ→Option β)→(σ→Option β)→σ→Option β
 |[],_,_,K,s=>K s
 |x::r,j,B,K,s=>B (j:Int) x (cK r (j+1) B K) s
def l5{σ β:Type}:Nat→Int→(Int→(σ→Option β)→σ→Option β)→(Int→σ→Option β)→σ→Option β
 |0,i,_,K,s=>K i s
 |n+1,i,B,K,s=>B i (l5 n (i+1) B K) s
def iter{σ β:Type}(F:(σ→Option β)→σ→Option β):Nat→σ→Option β
 |0,_=>none
 |n+1,s=>F (iter F n) s
def fuel:Nat:=1099511627776
def jb{σ β:Type}(F:(σ→Option β)→σ→Option β)(s:σ):Option β:=iter F fuel s
def bE(n:Int):Int:=IntKind.wrap .i64 n
def b2{α:Type}(l:List α)(i:Int):Option α:=if 0≤i then l[i.toNat]? else none
def oh{α:Type}(l:List α)(i:Int)(x:α):Option (List α):=if 0≤i∧i<l.length then some (l.set i.toNat x)else none
def aT:Nat:=549755813888
def jf{α:Type}(l r:List α):Option (List α):=if l.length+r.length≤aT then some (l++r)else none
def nk{α:Type}(l:List α)(a b:Int):Option (List α):=if 0≤a∧a≤b∧b≤l.length then some ((l.take b.toNat).drop a.toNat)else none
def Qi(s:ByteArray)(n:Int):Option UInt8:=if 0≤n then s[n.toNat]? else none
def ad1{s:ByteArray}{n:Int}{b:UInt8}(h:Qi s n=some b):0≤n∧s[n.toNat]?=some b:=by
 unfold Qi at h;split at h
 ·exact⟨‹_›,h⟩
 ·cases h
variable {α β:Type}{r:β}
def aU{o:Option α}{k:α→Option β}(h:aB o k=some r):∃a,o=some a∧k a=some r:=by
 cases o with
 |none=>cases h
 |some a=>exact⟨a,rfl,h⟩
def mD{c:Bool}{k:Option β}(h:hU c k=some r):c=true∧k=some r:=by
 cases c with
 |false=>cases h
 |true=>exact⟨rfl,h⟩
def bL{c:Bool}{x y:Option β}(h:(bif c then x else y)=some r):(c=true∧x=some r)∨(c=false∧y=some r):=by
 cases c with
 |false=>exact .inr ⟨rfl,h⟩
 |true=>exact .inl ⟨rfl,h⟩
variable {σ:Type}{k:σ→Option β}
def h2{t:(σ→Option β)→Option β}(h:jn k t=some r):∃J,J=k∧t J=some r:=⟨k,rfl,h⟩
def nU{a b:α}(h:some a=some b):a=b:=by injection h
variable {j:Nat}{l:List α}
def fF{b:Int→α→(σ→Option β)→σ→Option β}{s:σ}(h:cK l j b k s=some r):
  ∃B K,B=b∧K=k∧cK l j B K s=some r:=⟨b,k,rfl,rfl,h⟩
variable {i:Int}
def yP{n:Nat}{b:Int→(σ→Option β)→σ→Option β}{k:Int→σ→Option β}{s:σ}(h:l5 n i b k s=some r):
  ∃B K,B=b∧K=k∧l5 n i B K s=some r:=⟨b,k,rfl,rfl,h⟩
def n1{f:(σ→Option β)→σ→Option β}{s:σ}(h:jb f s=some r):∃F n,F=f∧iter F n s=some r:=⟨f,_,rfl,h⟩
variable {x:α}
def v7[Inhabited α](h:b2 l i=some x):(0≤i∧i<l.length)∧el l i=x:=by
 unfold b2 at h;split at h
 ·rename_i bA;obtain⟨h1,D⟩:=List.getElem?_eq_some_iff.1 h;refine⟨⟨bA,by omega⟩,?_⟩;simp[el,getD_eq_getElem?_getD,h]
 ·cases h
def eM(h:l[j]?=some x):b2 l (j:Int)=some x:=by
 unfold b2;rw[if_pos (by omega)];simpa using h
variable {m:List α}
def ac1(h:oh l i x=some m):(0≤i∧i<l.length)∧l.set i.toNat x=m:=by
 unfold oh at h;split at h
 ·exact⟨‹_›,nU h⟩
 ·cases h
def S4{r:List α}(h:jf l r=some m):l.length+r.length≤aT∧l++r=m:=by
 unfold jf at h;split at h
 ·exact⟨‹_›,nU h⟩
 ·cases h
variable {a:Int}
def ac2{b:Int}(h:nk l a b=some m):(0≤a∧a≤b∧b≤l.length)∧(l.take b.toNat).drop a.toNat=m:=by
 unfold nk at h;split at h
 ·exact⟨‹_›,nU h⟩
 ·cases h
structure jD(α:Type) where
 enc:α→List W
 sz:Nat
 hz:∀r,(enc r).length=sz
 one:∀r,(enc r).all W.one=true
 cl:∀r,mE (enc r)=true
def aM{α:Type}(e:jD α)(l:List α):List (List W):=l.map e.enc
def nB(e:jD α)(l:List α):(aM e l).length=l.length:=by simp[aM]
def Io(e:jD α)(l:List α):∀x∈aM e l,x.length=e.sz:=λx u=>by
 obtain⟨r,_,rfl⟩:=List.mem_map.1 u;exact e.hz r
def aho(e:jD α)(l:List α):(aM e l).flatten.all W.one=true:=aeZ e.enc e.one l
def az:jD Int:=⟨encI,1,λ_=>rfl,λ_=>rfl,λ_=>rfl⟩
def iK:jD Bool:=⟨λb=>[.bool b],1,λ_=>rfl,λ_=>rfl,λ_=>rfl⟩
def fo{α:Type}(e:jD α):jD (List α):=⟨λl=>[.bf false (aM e l)],1,λ_=>rfl,λ_=>rfl,λ_=>rfl⟩
def x5(sz:Nat)(xs:List (List W))(i:Int)(row:List W):Prop:=(∀e∈xs,e.length=sz)∧0≤i∧i<xs.length∧el xs i=row
def ix(e:jD α)(h:b2 l i=some x):x5 e.sz (aM e l) i (e.enc x):=by
 refine⟨Io e l,?_⟩;unfold b2 at h;split at h
 ·rename_i bA;obtain⟨h1,D⟩:=List.getElem?_eq_some_iff.1 h;exact⟨bA,by rw[nB];omega,by simp[aM,el,getD_eq_getElem?_getD,h]⟩
 ·cases h
def BQ(sz bytes:Nat)(xs bD zs:List (List W)):Prop:=
 xs++bD=zs∧(∀e∈xs,e.length=sz)∧(∀e∈bD,e.length=sz)∧bD.flatten.all W.one=true∧(xs.length+bD.length)*bytes≤140737488355328∧xs.length+bD.length≤maxLen
def ap(e:jD α){bytes:Nat}(Y:bytes≤256){r:List α}(h:jf l r=some m):BQ e.sz bytes (aM e l) (aM e r) (aM e m):=by
 obtain⟨h1,D⟩:=S4 h;unfold aT at h1;refine⟨by rw[←D];simp[aM],Io e l,Io e r,aho e r,?_,?_⟩
 ·rw[nB,nB];exact Nat.le_trans (Nat.mul_le_mul_left _ Y) (by omega)
 ·rw[nB,nB];unfold maxLen;omega
def HT(sz:Nat)(xs:List (List W))(i:Int)(off:Nat)(ca:List W)(zs:List (List W)):Prop:=
 x5 sz xs i (el xs i)∧zs=xs.set i.toNat (iT (el xs i) off ca)
def fM[Inhabited α](e:jD α){y:α}{off:Nat}{ca:List W}(u:b2 l i=some x)(h:oh l i y=some m)(ah:iT (e.enc x) off ca=e.enc y):HT e.sz (aM e l) i off ca (aM e m):=by
 have h1:=ix e u;obtain⟨D,aj,aV,b4⟩:=h1;refine⟨⟨D,aj,aV,rfl⟩,?_⟩;rw[b4,ah,←(ac1 h).2];simp[aM,List.map_set]
def s5(sz:Nat)(xs:List (List W))(a b:Int)(zs:List (List W)):Prop:=(∀e∈xs,e.length=sz)∧(0≤a∧a≤b∧b≤xs.length)∧(xs.take b.toNat).drop a.toNat=zs
def sl(e:jD α){b:Int}(h:nk l a b=some m):s5 e.sz (aM e l) a b (aM e m):=by
 obtain⟨h1,D⟩:=ac2 h;exact⟨Io e l,by rw[nB];exact h1,by rw[←D];simp[aM,map_drop,map_take]⟩
def dB(k:IntKind)(n:Int):W:=.int k n
def jw(b:Bool):W:=.bool b
def HQ(P:Program)(E:Nat)(k:IntKind)(bO:List (W×W))(n:Int)(a:W)(b:Bool):Prop:=∃(α:Type) (l:List (Int×α)) (enc:α→W) (z:α),
 bO=fh k enc l∧a=enc ((cH l n).getD z)∧b=(cH l n).isSome∧(∀w,∃v,(zeroValue E).run P w=.ok v w∧∀I,bk I (enc z) v)
def Ee(k:IntKind)(bO:List (W×W))(n:Int)(v:W)(mM:List (W×W)):Prop:=∃(α:Type) (l:List (Int×α)) (enc:α→W) (x:α),bO=fh k enc l∧v=enc x∧(enc x).closed=true∧mM=fh k enc (eG l n x)
def Si(k:IntKind)(bO:List (W×W))(n:Int):Prop:=∃(α:Type) (l:List (Int×α)) (enc:α→W),bO=fh k enc l∧n=l.length
variable {enc:α→W}
def lk{P:Program}{E:Nat}{k:IntKind}(l:List (Int×α))(n:Int)(z:α)(hz:∀w,∃v,(zeroValue E).run P w=.ok v w∧∀I,bk I (enc z) v):HQ P E k (fh k enc l) n (enc ((cH l n).getD z)) (cH l n).isSome:=⟨α,l,enc,z,rfl,rfl,rfl,hz⟩
def u5{k:IntKind}(l:List (Int×α))(n:Int)(x:α)(ah:(enc x).closed=true):Ee k (fh k enc l) n (enc x) (fh k enc (eG l n x)):=⟨α,l,enc,x,rfl,rfl,ah,rfl⟩
def L2:Nat→List (List W)→Prop
 |0,xs=>xs.length≤maxLen
 |n+1,xs=>xs.length≤maxLen∧∀e∈xs,∀f bD,W.bf f bD∈e→L2 n bD
def oO(xs:List (List W)):Prop:=∀n,L2 n xs
def oO.len{xs:List (List W)}(h:oO xs):xs.length≤maxLen:=h 0
def g4{n:Int}(h1 : -9223372036854775808≤n)(D:n≤9223372036854775807):bE n=n:=ME h1 D
def fk{e:jD α}(h:l[j]?=some x)(Y:oO (aM e l)):W.int .i64 (IntKind.wrap .i64 ((j:Int)+1))=.int .i64 ((j+1:Nat):Int):=by
 obtain⟨h1,_⟩:=List.getElem?_eq_some_iff.1 h;have Y:=Y.len;rw[nB]at Y;unfold maxLen at Y;rw[show IntKind.wrap .i64 ((j:Int)+1)=(j:Int)+1 from ME (by omega) (by omega)];rfl
def zy{hi:Int}(bA : -9223372036854775808≤i)(h:i<hi)(Y:hi≤9223372036854775807):W.int .i64 (IntKind.wrap .i64 (i+1))=.int .i64 (i+1):=by
 rw[show IntKind.wrap .i64 (i+1)=i+1 from ME (by omega) (by omega)]
def cb(e:jD α)(l:List α):W.int .i64 ((aM e l).length:Int)=.int .i64 (l.length:Int):=by rw[nB]
def zW{α:Type}(fL:α→α→Int)(x:α):List α→List α
 |[]=>[x]
 |y::r=>if fL y x<0 then y::zW fL x r else x::y::r
def sM{α:Type}(fL:α→α→Int):List α→List α
 |[]=>[]
 |x::r=>zW fL x (sM fL r)
def zz{α:Type}(fL:α→α→Int):List α→Bool
 |a::b::r=>decide (fL a b<0)&&zz fL (b::r)
 |_=>true
def o4{α:Type}(fL:α→α→Int)(l:List α):Option (List α):=bif zz fL (sM fL l)&&decide (l.length<4611686018427387904)then some (sM fL l)else none
def RH{α:Type}(fL:α→α→Int)(x:α):∀l:List α,(zW fL x l).Perm (x::l)
 |[]=>.refl _
 |y::r=>by
  simp only[zW];split
  ·exact((RH fL x r).cons y).trans (.swap x y r)
  ·exact .refl _
def AV{α:Type}(fL:α→α→Int):∀l:List α,(sM fL l).Perm l
 |[]=>.refl _
 |x::r=>(RH fL x _).trans ((AV fL r).cons x)
def Q8{α:Type}{fL:α→α→Int}(bU:∀a b c,fL a b<0→fL b c<0→fL a c<0):∀{l:List α},zz fL l=true→l.Pairwise λa b=>fL a b<0
 |[],_=>.nil
 |[x],_=>by simp
 |a::b::r,h=>by
  simp only[zz,Bool.and_eq_true,decide_eq_true_eq]at h;have bX:=Q8 bU h.2;rw[pairwise_cons];refine⟨λz hz=>?_,bX⟩;rcases mem_cons.1 hz with rfl|hz
  ·exact h.1
  ·exact bU _ _ _ h.1 ((pairwise_cons.1 bX).1 z hz)
def abX{fL:α→α→Int}(bU:∀a b c,fL a b<0→fL b c<0→fL a c<0)(h:o4 fL l=some m):m.Perm l∧(m.Pairwise λa b=>fL a b<0)∧l.length<4611686018427387904:=by
 unfold o4 at h;cases Y:(zz fL (sM fL l)&&decide (l.length<4611686018427387904))with
 |false=>rw[Y]at h;cases h
 |true=>
  rw[Y]at h;cases h
  simp only[Bool.and_eq_true,decide_eq_true_eq]at Y;exact⟨AV fL l,Q8 bU Y.1,Y.2⟩
def aa8{α:Type}{fL:α→α→Int}:∀{d m:List α},d.Perm m→(m.Pairwise λa b=>fL a b<0)→(d.Pairwise λa b=>¬fL b a<0)→d=m
 |[],m,aK,_,_=>aK.symm.eq_nil.symm
 |x::d,[],aK,_,_=>by have:=aK.eq_nil;cases this
 |x::d,y::m,aK,h1,D=>by
  rw[pairwise_cons]at h1 D;have u:x=y:=by
   refine Classical.byContradiction λdi=>?_;have g6:x∈m:=by
    have:=aK.mem_iff.1 (mem_cons_self (a:=x) (l:=d));rcases mem_cons.1 this with e|e
    ·exact absurd e di
    ·exact e
   have a2:y∈d:=by
    have:=aK.mem_iff.2 (mem_cons_self (a:=y) (l:=m));rcases mem_cons.1 this with e|e
    ·exact absurd e.symm di
    ·exact e
   exact D.1 y a2 (h1.1 x g6)
  subst u;rw[aa8 (List.Perm.cons_inv aK) h1.2 D.2]
def gD{α:Type}:List (α→Int)→α→α→Int
 |[],_,_=>0
 |k::r,a,b=>if k a<k b then -1 else if k b<k a then 1 else gD r a b
def p7(k:α→Int)(r:List (α→Int))(a b:α):gD (k::r) a b<0↔k a<k b∨k a=k b∧gD r a b<0:=by
 simp only[gD];split
 ·rename_i h;exact⟨λ_=>.inl h,λ_=>by omega⟩
 ·split
  ·rename_i h1 D;exact⟨λh=>by omega,λh=>by omega⟩
  ·rename_i h1 D;have:k a=k b:=by omega
   exact⟨λh=>.inr ⟨this,h⟩,λh=>by rcases h with h|h;exact absurd h h1;exact h.2⟩
def aa9{α:Type}:∀(l:List (α→Int)) (a:α),¬gD l a a<0
 |[],_=>by simp[gD]
 |k::r,a=>by rw[p7];intro h;rcases h with h|h;omega;exact aa9 r a h.2
def A0{α:Type}:∀(l:List (α→Int)) (a b c:α),gD l a b<0→gD l b c<0→gD l a c<0
 |[],_,_,_=>by simp[gD]
 |k::r,a,b,c=>by
  simp only[p7];intro h1 D;rcases h1 with h1|h1<;>rcases D with D|D
  ·exact .inl (by omega)
  ·exact .inl (by omega)
  ·exact .inl (by omega)
  ·exact .inr ⟨by omega,A0 r a b c h1.2 D.2⟩
def aaH{α:Type}:∀(l:List (α→Int)) (a b c:α),¬gD l a b<0→¬gD l b c<0→¬gD l a c<0
 |[],_,_,_=>by simp[gD]
 |k::r,a,b,c=>by
  simp only[p7];intro h1 D h;rcases h with h|⟨h,aj⟩
  ·by_cases e:k a<k b
   ·exact h1 (.inl e)
   ·exact D (.inl (by omega))
  ·by_cases e1:k a<k b
   ·exact h1 (.inl e1)
   by_cases e2:k b<k c
   ·exact D (.inl e2)
   have bT:k a=k b:=by omega
   have fG:k b=k c:=by omega
   exact aaH r a b c (λq=>h1 (.inr ⟨bT,q⟩)) (λq=>D (.inr ⟨fG,q⟩)) aj
end
section
inductive Sg where
 |int (k:IntKind)
 |bool
 |str
 |slice (E sz bytes:Nat) (zs:fK)
 |map (K E:Nat) (k:IntKind)
 |struct (zs:fK) (g0:List (Nat×Nat)) (q1:q3)
 |pg
structure fO where
 sz:Nat
 ej:Bool
 zs:Option (List Value)
 kd:Sg
def nS(P:Program)(T:Nat):Sg→Prop
 |.int k=>P.underlying T=some (.int k)
 |.bool=>P.underlying T=some .bool
 |.str=>P.underlying T=some .string
 |.slice E sz bytes zs=>ji P T E sz∧jy P T E sz bytes∧kz P T E sz zs
 |.map K E k=>r2 P T K E k
 |.struct zs g0 q1=>lN P T zs g0∧(∀f off sz,g0[f]?=some (off,sz)→hb P T f off)∧∀f off sz ej,g0[f]?=some (off,sz)→q1[f]?=some ej→g7 P T f off sz ej
 |.pg=>True
structure fR(P:Program)(T:Nat)(i:fO):Prop where
 ty:dS P T i.sz i.ej
 as9:∀zs,i.zs=some zs→∀w,∃z,(zeroValue T).run P w=.ok z w∧z.cells=zs.toArray
 kd:nS P T i.kd
abbrev hf:=List (Nat×fO)
def hf.get:hf→Nat→Option fO
 |[],_=>none
 |(k,v)::r,n=>bif Nat.beq k n then some v else hf.get r n
def kg(P:Program):hf→Prop
 |[]=>True
 |(k,v)::r=>fR P k v∧kg P r
def kg.get{P:Program}:∀{b6:hf} {T:Nat} {i:fO},kg P b6→b6.get T=some i→fR P T i
 |[],_,_,_,h=>by simp[hf.get]at h
 |(k,v)::r,T,i,ct,h=>by
  simp only[hf.get]at h;cases hk:Nat.beq k T<;>rw[hk]at h
  ·exact kg.get ct.2 h
  ·simp only[cond_true,Option.some.injEq]at h;have:k=T:=by simpa using hk
   subst this h;exact ct.1
structure j7(P:Program)(b6:hf):Prop where
 mix:P.follows .mixedOrders=true
 tys:kg P b6
structure cS(P:Program)(f:FuncId):Prop where
 h:∀(args:jj) (w:World),(callFunc f args).run P w=.ok (.enter f args) w
def Nl:c4→Prop
 |.slice _ _ xs _ _=>∀e∈xs,qi e=true
 |.map _ _ bO=>∀p∈bO,p.1.jG=true∧p.2.jG=true
 |_=>False
def xQ:ag→Prop
 |[]=>True
 |p::r=>Nl p.2∧xQ r
def Wq(a:W):Prop:=∀(I:bP) (β:Nat→Value) v,aD I β a v→∃p n c,v=.slice (some p) n c
abbrev cW:=List W×ag
inductive c9 where
 |y (R:ei) (bZ:W)
 |v (d:Nat) (aZ:c4) (bZ:W)
 |e (M news:ei) (bZ:W) (aL:ag)
def gh(G:c7)(o:Oper)(env:an)(σ:ag):c9→Prop
 |.y R bZ=>Yields G o env.ev σ [] R bZ
 |.v d aZ bZ=>G.ids.contains d=false∧Yields G o env.ev ((d,aZ)::σ) [d] [d] bZ
 |.e M news bZ aL=>hK G o env.ev σ M news (λa s=>a=bZ∧s=aL)∧news.all (λd=>!G.ids.contains d)=true
inductive Hint(P:Program):Type where
 |E3
 |al (d:Nat)
 |to (h:Hint P) (a b:W) (e:a=b)
 |ix (sz:Nat) (xs:List (List W)) (i:Int) (row:List W) (cv:x5 sz xs i row)
 |lo (d sz:Nat) (xs:List (List W)) (i:Int) (off:Nat) (row:List W) (cv:x5 sz xs i row)
 |so (d sz:Nat) (xs:List (List W)) (i:Int) (off:Nat) (ca:List W) (zs:List (List W)) (cv:HT sz xs i off ca zs) (k:Nat) (hk:(k:Int)≤i)
 |rf (f:FuncId) (vu dH:List W) (r:W) (cv:dn P f [] (dH++vu) r) (ah:cS P f)
 |ro (xH:Nat) (f:FuncId) (σs:ag) (dH:List W) (r:W) (cv:dn P f σs dH r) (ah:cS P f)
 |le (ds:ei) (f:FuncId) (dH:List W) (r:W) (cv:dn P f [] dH r) (ah:cS P f)
 |oU (news:ei) (f:FuncId) (ey:ag) (dH:List W) (r:W) (σ2:ag) (cv:gZ P f ey dH (λa aL=>a=r∧aL=σ2)) (ah:cS P f)
 |dl (ds news:ei) (f:FuncId) (dH:List W) (r:W) (σ2:ag) (cv:gZ P f [] dH (λa aL=>a=r∧aL=σ2)) (ah:cS P f) (yg:xQ σ2)
 |gs (Cm:Bool) (ex:cW) (f:ei→Op→an→ag→Option (c9×cW)) (cv:∀(o:Oper) (N:Nat) (ids:ei) (env:an) (σ:ag) (s:c9) (aZ:cW),f ids o.op env σ=some (s,aZ)→aZ=ex→gh ⟨P,N,ids⟩ o env σ s)
 |ap (d2 sz bytes:Nat) (xs bD zs:List (List W)) (cv:BQ sz bytes xs bD zs)
 |ws (d2 sz:Nat) (xs:List (List W)) (a:Int) (zs:List (List W)) (cv:s5 sz xs a xs.length zs)
 |sl (sz:Nat) (xs:List (List W)) (a b:Int) (zs:List (List W)) (cv:s5 sz xs a b zs)
 |qr (n:Int) (cv:n≠0)
 |sh (n:Int) (cv:0≤n)
 |is (s:ByteArray) (n:Int) (b:UInt8) (cv:0≤n∧s[n.toNat]?=some b)
 |lk (E:Nat) (k:IntKind) (bO:List (W×W)) (n:Int) (a:W) (b:Bool) (cv:HQ P E k bO n a b)
 |u5 (k:IntKind) (bO:List (W×W)) (n:Int) (v:W) (mM:List (W×W)) (cv:Ee k bO n v mM)
 |lm (k:IntKind) (bO:List (W×W)) (n:Int) (cv:Si k bO n)
 |KO (neg:Bool) (T:Nat) (a b:W) (r:Bool) (cv:∀(x y:Operand) w,(do eqGuard (bif neg then .neq else .eql) T x y (valOf a) (valOf b);binOp (bif neg then .neq else .eql) T (valOf a) (valOf b):Sem Value).run P w=.ok (.bool r) w)
 |Ra (neg:Bool) (a:W) (cv:Wq a)
 |s3 (sz:Nat) (xs:List (List W)) (a b:Int) (zs:List (List W)) (cv:s5 sz xs a b zs)
 |pu (T bl:Nat) (a r:W) (cv:∀(o:Oper) (N:Nat) (ids:ei) (ev:Operand→W) (σ:ag) (x:Operand),o.op=.convert T bl x→ev x=a→Yields ⟨P,N,ids⟩ o ev σ [] [] r)
 |pb (op:BinOp) (T:Nat) (a b r:W) (cv:∀(o:Oper) (N:Nat) (ids:ei) (ev:Operand→W) (σ:ag) (x y:Operand) (bl:Nat),o.op=.binOp op T x y bl→ev x=a→ev y=b→Yields ⟨P,N,ids⟩ o ev σ [] [] r)
def Hint.exp{P:Program}:Hint P→cW
 |.E3|.al _=>([],[])
 |.to h a _ _=>(a::h.exp.1,h.exp.2)
 |.ix _ xs i _ _=>([.bf false xs,.int .i64 i],[])
 |.lo d sz xs i off _ _=>([.bf false xs,.ptr d (i.toNat*sz+off)],[])
 |.so d sz xs i off ca _ _ _ _=>([.bf false xs,.ptr d (i.toNat*sz+off),.agg ca],[])
 |.rf f vu dH _ _ _=>(.fn f vu::dH,[])
 |.ro _ f σs dH _ _ _=>(.fn f []::dH,σs)
 |.le _ f dH _ _ _=>(.fn f []::dH,[])
 |.oU _ f ey dH _ _ _ _=>(.fn f []::dH,ey)
 |.dl _ _ f dH _ _ _ _ _=>(.fn f []::dH,[])
 |.gs _ ex _ _=>ex
 |.ap _ _ _ xs bD _ _=>([.bf false xs,.bf false bD],[])
 |.ws _ _ xs a _ _=>([.bf false xs,.int .i64 a],[])
 |.sl _ xs a b _ _=>([.bf false xs,.int .i64 a,.int .i64 b],[])
 |.qr n _|.sh n _=>([.int .i64 n],[])
 |.is s n _ _=>([.str s,.int .i64 n],[])
 |.lk _ _ bO n _ _ _=>([.int .i64 n],[(0,.map 0 0 bO)])
 |.u5 _ bO n v _ _=>([.int .i64 n,v],[(0,.map 0 0 bO)])
 |.lm _ bO _ _=>([],[(0,.map 0 0 bO)])
 |.KO _ _ a b _ _=>([a,b],[])
 |.Ra _ a _=>([a],[])
 |.s3 _ xs a b _ _=>([.bf false xs,.int .i64 a,.int .i64 b,.int .i64 b],[])
 |.pu _ _ a _ _=>([a],[])
 |.pb _ _ a b _ _=>([a,b],[])
mutual
def u3:W→W
 |.bf true xs=>.bf false xs
 |.dh=>.bf false []
 |.agg cs=>.agg (Mk cs)
 |a=>a
def Mk:List W→List W
 |[]=>[]
 |x::r=>u3 x::Mk r
end
mutual
def Rl{σ:ag}:∀a:W,jk σ a (u3 a)
 |.bf true xs=>.full xs
 |.dh=>.nil false
 |.agg cs=>.agg (aaC cs)
 |.bf false _|.ig|.undef|.int _ _|.bool _|.str _|.gP _|.og|.l7|.own _|.ptr _ _|.ep _|.h9 _ _|.dm _|.fn _ _|.fH _ _|.ec _|.arr _=>.refl _
def aaC{σ:ag}:∀l:List W,n9 σ l (Mk l)
 |[]=>.nil
 |x::r=>.cons (Rl x) (aaC r)
end
variable {G:c7}{o:Oper}{σ:ag}
def Yields.off{ev:Operand→W}{ew R:ei}{bZ:W}(h:Yields G o (λx=>u3 (ev x)) σ ew R bZ):Yields G o ev σ ew R bZ:=
 λaL cx I β w bp cz aA hm hop=>h aL cx I β w bp cz aA hm λx u=>(Rl (ev x)).rep aA _ (hop x u)
def hK.off{ev:Operand→W}{M news:ei}{Φ:W→ag→Prop}(h:hK G o (λx=>u3 (ev x)) σ M news Φ):hK G o ev σ M news Φ:=
 λcx I β w bp aA hop=>h cx I β w bp aA λx u=>(Rl (ev x)).rep aA _ (hop x u)
def EO:List (Nat×W)→List (Nat×W)
 |[]=>[]
 |p::r=>(p.1,u3 p.2)::EO r
def Ml{ev:Operand→W}:∀l:List (Nat×Operand),EO (l.map λp=>(p.1,ev p.2))=l.map λp=>(p.1,u3 (ev p.2))
 |[]=>rfl
 |p::r=>by simp only[map_cons,EO,Ml r]
mutual
def js(mQ:ei)(σ:ag):W→Option W
 |.own d=>bif mQ.contains d then some (.own d)else match σ.get d with
  |some (.slice _ _ xs _ true)=>some (.bf false xs)
  |some (.win _ _ xs)=>some (.bf false xs)
  |_=>none
 |.ep d=>bif mQ.contains d then some (.ep d)else match σ.get d with
  |some (.mO _ _ bO)=>some (.ec bO)
  |_=>some (.ep d)
 |.dh=>some (.bf false [])
 |.l7=>some (.bf false [])
 |.bf true xs=>some (.bf false xs)
 |.agg cs=>match tQ mQ σ cs with|none=>none|some l=>some (.agg l)
 |.dm cs=>match tQ mQ σ cs with|none=>none|some l=>some (.dm l)
 |.fn f cs=>match tQ mQ σ cs with|none=>none|some l=>some (.fn f l)
 |a=>some a
def tQ(mQ:ei)(σ:ag):List W→Option (List W)
 |[]=>some []
 |x::r=>match js mQ σ x with
  |none=>none
  |some a=>match tQ mQ σ r with
   |none=>none
   |some l=>some (a::l)
end
mutual
def sG{mQ:ei}{σ:ag}:∀{a b:W},js mQ σ a=some b→jk σ a b
 |.own d,b,h=>by
  simp only[js]at h;cases hk:mQ.contains d with
  |true=>rw[hk]at h;simp only[cond_true,Option.some.injEq]at h;subst h;exact .refl _
  |false=>
   rw[hk]at h;simp only[cond_false]at h;split at h
   ·rename_i aa;simp only[Option.some.injEq]at h;subst h;exact .own aa
   ·rename_i aa;simp only[Option.some.injEq]at h;subst h;exact .win aa
   ·cases h
 |.ep d,b,h=>by
  simp only[js]at h;cases hk:mQ.contains d with
  |true=>rw[hk]at h;simp only[cond_true,Option.some.injEq]at h;subst h;exact .refl _
  |false=>
   rw[hk]at h;simp only[cond_false]at h;split at h
   ·rename_i aa;simp only[Option.some.injEq]at h;subst h;exact .mO aa
   ·cases h;exact .refl _
 |.ec _,b,h=>by simp only[js,Option.some.injEq]at h;subst h;exact .refl _
 |.arr _,b,h=>by simp only[js,Option.some.injEq]at h;subst h;exact .refl _
 |.dh,b,h=>by simp only[js,Option.some.injEq]at h;subst h;exact .nil false
 |.l7,b,h=>by simp only[js,Option.some.injEq]at h;subst h;exact .l7
 |.bf true xs,b,h=>by simp only[js,Option.some.injEq]at h;subst h;exact .full xs
 |.agg cs,b,h=>by
  simp only[js]at h;split at h
  ·cases h
  ·rename_i l aP;simp only[Option.some.injEq]at h;subst h;exact .agg (A4 aP)
 |.dm cs,b,h=>by
  simp only[js]at h;split at h
  ·cases h
  ·rename_i l aP;simp only[Option.some.injEq]at h;subst h;exact .dm (A4 aP)
 |.fn f cs,b,h=>by
  simp only[js]at h;split at h
  ·cases h
  ·rename_i l aP;simp only[Option.some.injEq]at h;subst h;exact .fn (A4 aP)
 |.bf false _,b,h|.ig,b,h|.undef,b,h|.int _ _,b,h|.bool _,b,h|.str _,b,h|.gP _,b,h|.og,b,h|.ptr _ _,b,h|.h9 _ _,b,h|.fH _ _,b,h=>by
  simp only[js,Option.some.injEq]at h;subst h;exact .refl _
def A4{mQ:ei}{σ:ag}:∀{a b:List W},tQ mQ σ a=some b→n9 σ a b
 |[],b,h=>by simp only[tQ,Option.some.injEq]at h;subst h;exact .nil
 |x::r,b,h=>by
  simp only[tQ]at h;split at h
  ·cases h
  ·rename_i a aI;split at h
   ·cases h
   ·rename_i l aP;simp only[Option.some.injEq]at h;subst h
    exact .cons (sG aI) (A4 aP)
end
def ag.at(σ:ag):ei→Option ag
 |[]=>some []
 |d::r=>match σ.get d with
  |none=>none
  |some o=>match ag.at σ r with
   |none=>none
   |some l=>some ((d,o)::l)
def axG{σ:ag}:∀{ds:ei} {l:ag},σ.at ds=some l→vj σ l∧l.ids=ds
 |[],l,h=>by simp only[ag.at,Option.some.injEq]at h;subst h;exact⟨trivial,rfl⟩
 |d::r,l,h=>by
  simp only[ag.at]at h;split at h
  ·cases h
  ·rename_i o ar;split at h
   ·cases h
   ·rename_i m hm;simp only[Option.some.injEq]at h;subst h
    obtain⟨h1,D⟩:=axG hm;exact⟨⟨ar,h1⟩,by simp only[ag.ids,map_cons]at D ⊢;rw[D]⟩
def sN(f:W→Option W):List W→Option (List W)
 |[]=>some []
 |x::r=>match f x with
  |none=>none
  |some a=>match sN f r with
   |none=>none
   |some l=>some (a::l)
def tT:Nat→ag→W→Option W
 |0,_,_=>none
 |n+1,σ,a=>match a with
  |.own d=>(match σ.get d with|some (.slice _ _ xs _ _)=>some (.bf false xs)|some (.win _ _ xs)=>some (.bf false xs)|_=>none)
  |.ptr d p=>(match σ.get d with
   |some (.cells _ cs)=>(match sN (tT n σ) (cs.drop p)with|none=>none|some l=>some (.gP l))
   |_=>none)
  |.dh=>some (.bf false [])
  |.bf true xs=>some (.bf false xs)
  |.agg cs=>(match sN (tT n σ) cs with|none=>none|some l=>some (.agg l))
  |.dm cs=>(match sN (tT n σ) cs with|none=>none|some l=>some (.dm l))
  |.fn f cs=>(match sN (tT n σ) cs with|none=>none|some l=>some (.fn f l))
  |.ep d=>(match σ.get d with|some (.map _ _ bO)=>some (.ec bO)|some (.mO _ _ bO)=>some (.ec bO)|some (.ij _ _ _ _ bO)=>some (.ec bO)|_=>none)
  |.fH _ _=>none
  |.l7=>some (.bf false [])
  |a=>some a
def Bc{f:W→Option W}{I J:bP}{β:Nat→Value}(bc:∀a b,f a=some b→∀v,aD I β a v→bk J b v):∀{l m:List W},sN f l=some m→∀vs,cw I β l vs→cD J m vs
 |[],m,h,vs,aC=>by simp only[sN,Option.some.injEq]at h;subst h;exact aC
 |x::r,m,h,vs,aC=>by
  simp only[sN]at h;split at h
  ·cases h
  ·rename_i a aI;split at h
   ·cases h
   ·rename_i l aP;simp only[Option.some.injEq]at h;subst h
    simp only[cw]at aC;obtain⟨aq,b8,rfl,h1,D⟩:=aC;exact⟨aq,b8,rfl,bc x a aI aq h1,Bc bc aP b8 D⟩
def Mm{G:c7}{cx:gj}{I:bP}{β:Nat→Value}{σ:ag}{w:World}(aA:cG G cx I β σ w):∀(n:Nat) (a b:W),tT n σ a=some b→∀v,aD I β a v→bk (iO w) b v
 |0,a,b,h,_,_=>by cases h
 |n+1,a,b,h,v,aC=>by
  have hle:dc I (iO w):=aA.U0;have bX:=Mm aA n;cases a with
  |own d=>
   simp only[tT]at h;split at h
   ·rename_i T sz xs k dO aa;cases h;simp only[aD]at aC;obtain⟨rfl,Z⟩:=aC;have c5:=aA.dK d _ aa;simp only[br]at c5;simp only[bk];rcases c5 with q|⟨q,rfl,_⟩|⟨b,aT,arr,ay,aG,a1,aW,bt,b1,cE,_⟩
    ·rw[q]at Z;simp[jX]at Z
    ·exact⟨none,0,q,by simp,by simp[maxLen],by simp,.inl rfl⟩
    ·refine⟨_,aT,ay,aG,a1,by simp,.inr ⟨b,0,rfl,?_⟩⟩;refine AY xs 0 _ (ov hle _ _ b1) λj v ai=>?_;rw[Nat.zero_add];rw[getElem?_take]at ai;split at ai
     ·simp only[iO,World.cell?,aW];simpa using ai
     ·cases ai
   ·rename_i T sz xs aa;cases h;exact kI hle _ _ (by simpa only[aD]using aA.win aa aC)
   ·cases h
  |ptr d p=>
   simp only[tT]at h;split at h
   ·rename_i T cs aa;split at h
    ·cases h
    ·rename_i l aP;cases h;simp only[aD]at aC;obtain⟨fc,Y,rfl⟩:=aC;obtain⟨arr,ay,aG,a1,_⟩:=cG.box aA aa Y;simp only[bk];refine⟨fc,p,rfl,?_⟩;have:=Bc (J:=iO w) bX aP _ (Dh p _ _ a1);refine G3 l p _ this λj v ai=>?_;simp only[iO,World.cell?,aG];simpa using ai
   ·cases h
  |dh=>cases h;simp only[aD,bk]at aC ⊢;exact⟨none,0,aC,by simp,by simp[maxLen],by simp,by simp⟩
  |bf f xs=>
   have h1:bk (iO w) (.bf f xs) v:=kI hle _ _ (by simpa only[aD]using aC);cases f with
   |false=>cases h;exact h1
   |true=>
    cases h;simp only[bk]at h1 ⊢;obtain⟨a,c,D,aj,aV,_,b4⟩:=h1;exact⟨a,c,D,aj,aV,by simp,b4⟩
  |agg cs=>
   simp only[tT]at h;split at h
   ·cases h
   ·rename_i l aP;cases h
    simp only[aD]at aC;obtain⟨vs,rfl,aC⟩:=aC;simp only[bk];exact⟨vs,rfl,Bc bX aP _ aC⟩
  |dm cs=>
   simp only[tT]at h;split at h
   ·cases h
   ·rename_i l aP;cases h
    simp only[aD]at aC;obtain⟨vs,rfl,aC⟩:=aC;simp only[bk];exact⟨vs,rfl,Bc bX aP _ aC⟩
  |fn f cs=>
   simp only[tT]at h;split at h
   ·cases h
   ·rename_i l aP;cases h
    simp only[aD]at aC;obtain⟨vs,rfl,aC⟩:=aC;simp only[bk];exact⟨vs,rfl,Bc bX aP _ aC⟩
  |ep d=>
   have own:∀{r:Nat} {es:gx} {clock:Nat} {bO:List (W×W)},β d=.map (some r)→w.heap[r]?=some (.map es clock)→gm I bO es.toList→k9 es clock→aD I β (.ep d) v→bk (iO w) (.ec bO) v:=by
    intro r es clock bO h1 D aj aV b4;simp only[aD]at b4;obtain⟨rfl,_⟩:=b4;simp only[bk];exact⟨r,es,clock,h1,by simp only[iO,D],nA hle _ _ aj,aV⟩
   have CQ:nN (β d)=true:=by simp only[aD]at aC;obtain⟨rfl,q⟩:=aC;exact q
   simp only[tT]at h;split at h
   ·rename_i K E bO aa;cases h;have c5:=aA.dK d _ aa;simp only[br]at c5;rcases c5 with q|⟨r,es,clock,ay,aG,a1,_,_,b1⟩
    ·rw[q]at CQ;simp[nN]at CQ
    ·exact own ay aG a1 b1 aC
   ·rename_i K E bO aa;cases h;have c5:=aA.dK d _ aa;simp only[br]at c5;rcases c5 with q|⟨r,es,clock,ay,aG,a1,_,b1⟩
    ·rw[q]at CQ;simp[nN]at CQ
    ·obtain⟨kJ,oQ,aV,b4⟩:=aA.iU r _ aG;obtain⟨rfl,rfl⟩:=K0 b4;exact own ay aV a1 b1 aC
   ·rename_i es clock K E bO aa;cases h;have c5:=aA.dK d _ aa;simp only[br]at c5;rcases c5 with q|⟨r,ay,aG,a1,_,_,b1⟩
    ·rw[q]at CQ;simp[nN]at CQ
    ·exact own ay aG a1 b1 aC
   ·cases h
  |ec bO=>cases h;exact kI hle _ _ (by simpa only[aD]using aC)
  |arr xs=>cases h;exact kI hle _ _ (by simpa only[aD]using aC)
  |fH k d=>cases h
  |l7=>
   cases h;simp only[aD,bk]at aC ⊢;obtain⟨a,c,aC,ah⟩:=aC;exact⟨some a,c,aC,by simp,ah,by simp,by simp⟩
  |h9 f cs=>cases h;exact kI hle _ _ (by simpa only[aD]using aC)
  |ig=>cases h;simp[bk]
  |undef=>cases h;exact kI hle _ _ (by simpa only[aD]using aC)
  |int k n=>cases h;exact kI hle _ _ (by simpa only[aD]using aC)
  |bool b=>cases h;exact kI hle _ _ (by simpa only[aD]using aC)
  |str s=>cases h;exact kI hle _ _ (by simpa only[aD]using aC)
  |gP cs=>cases h;exact kI hle _ _ (by simpa only[aD]using aC)
  |og=>cases h;exact kI hle _ _ (by simpa only[aD]using aC)
def Bx(n:Nat)(σ:ag)(a:W):Option W:=match tT n σ a with
 |some (.fn f l)=>some (.h9 f l)
 |x=>x
variable {I:bP}{β:Nat→Value}
def Tp{cx:gj}{w:World}(aA:cG G cx I β σ w)(n:Nat)(a b:W)(h:Bx n σ a=some b)(v:Value)(aC:aD I β a v):bk (iO w) b v:=by
 unfold Bx at h;split at h
 ·rename_i f l he;cases h;have:=Mm aA n a _ he v aC;simpa only[bk]using this
 ·exact Mm aA n a _ h v aC
def cD.Om:∀{l:List W} {vs:fK},cD I l vs→cw I β l vs:=λh=>cD.rep β _ _ h
variable {args:Array Operand}{dH ps:List W}{env:an}{f:FuncId}{hH:Operand}{k:Array TypeId}{r:W}{σs:ag}
def azu{aT:List W}(n:Nat)(h:o.op=.call ⟨.value hH,args,k⟩)(bc:env.ev hH=.fn f aT)
    (qM:∀(args:jj) (w:World),(callFunc f args).run G.P w=.ok (.enter f args) w) (bI:dn G.P f [] dH r) (aK:env.qj args.toList=some ps) (aI:sN (Bx n σs) (ps++aT)=some dH) (Z:vj σ σs)
    (aC:r.jG=true):Yields G o env.ev σ [] σs.ids r:=by
  intro aL cx I β w bp cz aA _ hop;have kS:=hop hH (by simp[h,Op.operands,Call.operands]);rw[bc]at kS;simp only[aD]at kS;obtain⟨vs,kS,oA⟩:=kS;rw[G8 h kS qM]
  have mI:∀d o,σs.get d=some o→aL.get d=some o:=λd o aa=>by
    obtain⟨p,cM,dY,fJ⟩:=tL σs d o aa;rw[cz d (by rw[←dY];exact List.mem_map.2 ⟨p,cM,rfl⟩),←dY,←fJ];exact Z.mem p cM
  have AK:=aA.sub mI;have pG:=tg _ _ _ _ (Bb env.ev bp args.toList λx u=>hop x (by simp only[h,Op.operands,Call.operands];simp;right;simpa using u)) oA;rw[axW aK]at pG;have xE:=Bc (J:=iO w) (Tp AK n) aI _ pG
  have gi:cG ⟨G.P,0,[]⟩ (o2 (iO w) β [] w) (iO w) β [] w:=
    {good:=G6,iU:=GR,ku:=dc.refl _,jY:=λ_ _ _ _=>rfl,frame:=λ_ _ _=>rfl,size:=Nat.le_refl _,tape:=rfl,os:=rfl,output:=rfl,drawn:=Nat.le_refl _,
     dK:=λd o aa=>by simp[ag.get]at aa,eN:=λd fT aa=>by simp[ag.get]at aa,keep:=λd aa=>by simp at aa}
  refine Calls.mono (bI _ w (iO w) β _ gi xE.Om) ?_;rintro e w' ⟨v,he,r',σ2,bm,β',⟨sB,lK⟩,jx,gz⟩;subst sB lK;have lB:cG G cx I β aL w':=aA.stay (λb Y=>gz.frame b Y (by simp[o2,xm,ag.ids])) gz.size gz.tape gz.os gz.output gz.drawn;exact⟨v,he,I,β,aD.jG r' v aC jx,lB,dc.refl I,λ_ _=>rfl⟩
mutual
def W.qS:W→Bool
 |.int _ _=>true
 |.bool _=>true
 |.str _=>true
 |.undef=>true
 |.own _=>true
 |.ep _=>true
 |.dm cs=>Ek cs
 |.agg cs=>Ek cs
 |_=>false
def Ek:List W→Bool
 |[]=>true
 |x::r=>x.qS&&Ek r
end
mutual
def aD.qS{I bm:bP}{β:Nat→Value}:∀(a:W) (v:Value),a.qS=true→aD I β a v→aD bm β a v
 |.int _ _,v,_,h=>by simpa only[aD,bk]using h
 |.bool _,v,_,h=>by simpa only[aD,bk]using h
 |.str _,v,_,h=>by simpa only[aD,bk]using h
 |.undef,v,_,h=>by simpa only[aD,bk]using h
 |.own d,v,_,h=>by simpa only[aD]using h
 |.ep d,v,_,h=>by simpa only[aD]using h
 |.dm cs,v,Z,h=>by
  simp only[aD,W.qS]at h Z ⊢;obtain⟨vs,h1,D⟩:=h;exact⟨vs,h1,cw.qS cs _ Z D⟩
 |.agg cs,v,Z,h=>by
  simp only[aD,W.qS]at h Z ⊢;obtain⟨vs,h1,D⟩:=h;exact⟨vs,h1,cw.qS cs _ Z D⟩
 |.ig,_,Z,_|.bf _ _,_,Z,_|.gP _,_,Z,_|.fn _ _,_,Z,_|.dh,_,Z,_|.og,_,Z,_|.ptr _ _,_,Z,_|.h9 _ _,_,Z,_|.l7,_,Z,_|.fH _ _,_,Z,_=>by simp[W.qS]at Z
def cw.qS{I bm:bP}{β:Nat→Value}:∀(a:List W) (v:fK),Ek a=true→cw I β a v→cw bm β a v
 |[],v,_,h=>h
 |x::r,v,Z,h=>by
  simp only[cw,Ek,Bool.and_eq_true]at h Z ⊢;obtain⟨aq,b8,h1,D,aj⟩:=h;exact⟨aq,b8,h1,aD.qS x aq Z.1 D,cw.qS r b8 Z.2 aj⟩
end
def xQ.get:∀{σ:ag} {d:Nat} {o:c4},xQ σ→σ.get d=some o→Nl o
 |[],_,_,_,h=>by simp[ag.get]at h
 |(x,v)::r,d,o,bc,h=>by
  obtain⟨p,cM,_,fJ⟩:=tL ((x,v)::r) d o h;have:∀(σ:ag),xQ σ→∀p∈σ,Nl p.2:=by
   intro σ;induction σ with
   |nil=>intro _ p aK;simp at aK
   |cons q r bX=>
    intro bc p aK;rcases mem_cons.1 aK with rfl|aK
    ·exact bc.1
    ·exact bX bc.2 p aK
  rw[←fJ];exact this _ bc p cM
def ae9{α:Type}(e:jD α)(he:∀x,qi (e.enc x)=true)(l:List α):∀r∈aM e l,qi r=true:=λr aC=>by
 obtain⟨x,_,rfl⟩:=List.mem_map.1 aC;exact he x
def aaA:∀{a b:List W},qi a=true→qi b=true→qi (a++b)=true
 |[],_,_,h=>h
 |x::r,b,aI,Y=>by
  simp only[cons_append,qi,Bool.and_eq_true]at aI ⊢;exact⟨aI.1,aaA aI.2 Y⟩
def aaD:∀{xs:List (List W)},(∀e∈xs,qi e=true)→qi xs.flatten=true
 |[],_=>rfl
 |x::r,h=>by
  rw[flatten_cons];exact aaA (h x (by simp)) (aaD λe he=>h e (by simp[he]))
mutual
def bk.jG{I bm:bP}:∀(a:W) (v:Value),a.jG=true→bk I a v→bk bm a v
 |.int _ _,v,_,h=>by simpa only[bk]using h
 |.bool _,v,_,h=>by simpa only[bk]using h
 |.str _,v,_,h=>by simpa only[bk]using h
 |.undef,v,_,h=>by simpa only[bk]using h
 |.dm cs,v,Z,h=>by
  simp only[bk,W.jG]at h Z ⊢;obtain⟨vs,h1,D⟩:=h;exact⟨vs,h1,cD.jG cs _ Z D⟩
 |.agg cs,v,Z,h=>by
  simp only[bk,W.jG]at h Z ⊢;obtain⟨vs,h1,D⟩:=h;exact⟨vs,h1,cD.jG cs _ Z D⟩
 |.ig,_,Z,_|.bf _ _,_,Z,_|.gP _,_,Z,_|.fn _ _,_,Z,_|.dh,_,Z,_|.og,_,Z,_|.own _,_,Z,_|.ptr _ _,_,Z,_|.ep _,_,Z,_|.h9 _ _,_,Z,_|.l7,_,Z,_|.fH _ _,_,Z,_=>by simp[W.jG]at Z
def cD.jG{I bm:bP}:∀(a:List W) (v:fK),qi a=true→cD I a v→cD bm a v
 |[],v,_,h=>h
 |x::r,v,Z,h=>by
  simp only[cD,qi,Bool.and_eq_true]at h Z ⊢;obtain⟨aq,b8,h1,D,aj⟩:=h;exact⟨aq,b8,h1,bk.jG x aq Z.1 D,cD.jG r b8 Z.2 aj⟩
end
def gm.jG{I bm:bP}:∀(l:List (W×W)) (es:oe),(∀p∈l,p.1.jG=true∧p.2.jG=true)→gm I l es→gm bm l es
 |[],es,_,h=>h
 |(k,v)::r,es,Z,h=>by
  simp only[gm]at h ⊢;obtain⟨e,b8,h1,D,aj,aV⟩:=h;exact⟨e,b8,h1,bk.jG k _ (Z (k,v) (by simp)).1 D,bk.jG v _ (Z (k,v) (by simp)).2 aj,gm.jG r b8 (λp aK=>Z p (by simp[aK])) aV⟩
def K4:∀σ:ag,ag.minus [] σ=σ
 |[]=>rfl
 |(d,o)::r=>by simp only[ag.minus,contains_nil,cond_false,K4 r]
def ayJ{aT:List W}{σ2:ag}(n:Nat)(news:ei)(h:o.op=.call ⟨.value hH,args,k⟩)(bc:env.ev hH=.fn f aT)
    (qM:∀(args:jj) (w:World),(callFunc f args).run G.P w=.ok (.enter f args) w) (bI:gZ G.P f [] dH (λa aL=>a=r∧aL=σ2)) (aK:env.qj args.toList=some ps) (aI:sN (Bx n σs) (ps++aT)=some dH) (Z:vj σ σs)
    (be:news.all (λd=>!G.ids.contains d&&(σ.get d).isNone)=true) (iQ:σ.clean news.contains=true) (aC:r.qS=true) (lK:r.refs (λd=>!news.contains d)=false) (D:σ2.clean (λd=>!news.contains d)=true) (Cw:xQ σ2) :
    hK G o env.ev σ news news (λa aL=>a=r∧aL=σ2++σ):=by
  intro cx I β w bp aA hop;have kS:=hop hH (by simp[h,Op.operands,Call.operands]);rw[bc]at kS;simp only[aD]at kS;obtain⟨vs,kS,oA⟩:=kS;rw[G8 h kS qM]
  have AK:=aA.sub (σ2:=σs) λd o aa=>by
    obtain⟨p,cM,dY,fJ⟩:=tL σs d o aa;rw[←dY,←fJ];exact Z.mem p cM
  have pG:=tg _ _ _ _ (Bb env.ev bp args.toList λx u=>hop x (by simp only[h,Op.operands,Call.operands];simp;right;simpa using u)) oA;rw[axW aK]at pG;have xE:=Bc (J:=iO w) (Tp AK n) aI _ pG
  have gi:cG ⟨G.P,0,[]⟩ (o2 (iO w) β [] w) (iO w) β [] w:=
    {good:=G6,iU:=GR,ku:=dc.refl _,jY:=λ_ _ _ _=>rfl,frame:=λ_ _ _=>rfl,size:=Nat.le_refl _,tape:=rfl,os:=rfl,output:=rfl,drawn:=Nat.le_refl _,
     dK:=λd o aa=>by simp[ag.get]at aa,eN:=λd fT aa=>by simp[ag.get]at aa,keep:=λd aa=>by simp at aa}
  refine Calls.mono (bI _ w (iO w) β _ gi xE.Om) ?_;rintro e w' ⟨v,he,r',σ3,bm,β',⟨sB,sD⟩,jx,gz⟩;subst sB sD;have AB:∀b,b<w.heap.size→w'.heap[b]?=w.heap[b]?:=λb Y=>gz.frame b Y (by simp[o2,xm])
  have k7:∀b,Place (o2 (iO w) β [] w) b→w.heap.size≤b:=λb Y=>by
    rcases Y with Y|Y
    · exact Y
    · simp[o2,xm]at Y
  have key:cG ⟨G.P,0,[]⟩ (o2 I β [] w) (λb o=>if b<w.heap.size then I b o else bm b o) β' σ3 w':=
    {good:=λb o v ai=>by
        by_cases Y:b<w.heap.size
        · simp only[Y,if_true]at ai
          have h1:=aA.good b o v ai;rw[World.cell?_of_block (w:=w) (AB b Y)];exact h1
        · simp only[Y,if_false]at ai
          exact gz.good b o v ai
     iU:=λb v ai=>by
        by_cases Y:b<w.heap.size
        · simp only[Y,if_true]at ai
          obtain⟨es,clock,h1,D⟩:=aA.iU b v ai;exact⟨es,clock,by rw[AB b Y];exact h1,D⟩
        · simp only[Y,if_false]at ai
          exact gz.iU b v ai
     ku:=λb o v ai=>by
        have cq:b<w.heap.size:=aA.ahA ai;simp only[cq,if_true];exact ai
     jY:=λb Y _ o=>by
        have Y:b<w.heap.size:=Y;simp only[Y,if_true];rfl
     frame:=λb Y _=>AB b Y
     size:=gz.size,tape:=gz.tape,os:=gz.os,output:=gz.output,drawn:=gz.drawn
     dK:=λd o aa=>by
        have ar:=gz.dK d o aa;have rC:=Cw.get aa;cases o with
        |slice T sz xs jg dO=>
          simp only[br]at ar ⊢;rcases ar with q|q|⟨b,aT,arr,ay,aG,a1,aW,bt,b1,cE,dA,ef,eY,gb⟩
          · exact .inl q
          · exact .inr (.inl q)
          · have Y:=k7 b gb
            have CF:¬b<w.heap.size:=by omega
            refine .inr (.inr ⟨b,aT,arr,ay,aG,a1,aW,bt,cD.jG _ _ (aaD rC) b1,cE,dA,?_,?_,.inl Y⟩)
            · simp only[CF,if_false];exact ef
            · simp only[CF,if_false];exact eY
        |cells _ _=>exact absurd rC id
        |map K E bO=>
          simp only[br]at ar ⊢;rcases ar with q|⟨r,es,clock,ay,aG,a1,aW,bt,b1⟩
          · exact .inl q
          · have Y:=k7 r bt
            have CF:¬r<w.heap.size:=by omega
            refine .inr ⟨r,es,clock,ay,aG,gm.jG _ _ rC a1,λo=>?_,.inl Y,b1⟩;simp only[CF,if_false];exact aW o
        |win _ _ _=>exact absurd rC id
        |mO _ _ _=>exact absurd rC id
        |ij _ _ _ _ _=>exact absurd rC id
        |iter _ _ _ _=>exact absurd rC id
        |hdr _ _=>exact absurd rC id
        |cO _=>exact absurd rC id
        |e5 _ _ _ _=>exact absurd rC id
        |ic _ _ _=>exact absurd rC id
        |vec _ _=>exact absurd rC id
        |jd _ _ _ _=>exact absurd rC id
        |nO _ _ _ _ _ _=>exact absurd rC id
     eN:=gz.eN,keep:=λd aa=>by simp at aa}
  have CE:∀d∈news,d∉G.ids∧σ.get d=none:=λd aa=>by
    have:=List.all_eq_true.1 be d aa;simpa using this
  have hm:σ.minus (ag.ids [])=σ:=K4 σ;obtain⟨cZ,c8,h3⟩:=aA.after (ey:=[]) (by simp) key news CE (by rw[hm];exact iQ) (by simpa [ag.ids]using D);rw[hm]at cZ;refine⟨v,he,r',_,_,_,⟨rfl,rfl⟩,h3 r' v (by simpa [ag.ids]using lK) (aD.qS r' v aC jx),cZ,c8,λd aa=>by simp[aa],λd aa=>?_⟩;rw[axQ];cases aV:σ3.get d with
  |some hP=>
    have:=(axC D d hP aV).1;have:news.contains d=true:=by rw[←Bool.not_eq_false'];exact this
    exact absurd (List.contains_iff_mem.1 this) aa
  |none=>rfl
def It(op:BinOp)(k:IntKind)(m n:Int):Option W:=match op with
 |.add=>some (.int k (k.wrap (m+n)))
 |.sub=>some (.int k (k.wrap (m-n)))
 |.mul=>some (.int k (k.wrap (m*n)))
 |.lss=>some (.bool (decide (m<n)))
 |.leq=>some (.bool (decide (m≤n)))
 |.gtr=>some (.bool (decide (n<m)))
 |.geq=>some (.bool (decide (n≤m)))
 |.eql=>some (.bool (decide (m=n)))
 |.neq=>some (.bool (!decide (m=n)))
 |.and=>some (.int k (kf .and k m n))
 |.or=>some (.int k (kf .or k m n))
 |.xor=>some (.int k (kf .xor k m n))
 |.andNot=>some (.int k (kf .andNot k m n))
 |_=>none
def VK(b6:hf)(env:an)(σ:ag)(c:Call):Option (ei×W):=match c.callee with
 |.builtin b=>(match b with
  |.len=>(match c.args.toList with
   |[x]=>(match c.argTypes.toList with
    |[T]=>(match b6.get T with
     |some ⟨_,_,_,.slice _ _ _ _⟩=>(match env.dg x with
      |some (.bf _ xs)=>some ([],.int .i64 (xs.length:Int))
      |some .dh=>some ([],.int .i64 0)
      |some (.own d)=>(match σ.get d with|some (.slice _ _ xs _ _)=>some ([d],.int .i64 (xs.length:Int))|some (.win _ _ xs)=>some ([d],.int .i64 (xs.length:Int))|_=>none)
      |_=>none)
     |some ⟨_,_,_,.str⟩=>(match env.dg x with|some (.str s)=>some ([],.int .i64 (s.size:Int))|_=>none)
     |_=>none)
    |_=>none)
   |_=>none)
  |.min=>(match c.args.toList with
   |[x,y]=>(match env.dg x with
    |some (.int k m)=>(match env.dg y with|some (.int _ n)=>some ([],.int k (if n<m then n else m))|_=>none)
    |_=>none)
   |_=>none)
  |.max=>(match c.args.toList with
   |[x,y]=>(match env.dg x with
    |some (.int k m)=>(match env.dg y with|some (.int _ n)=>some ([],.int k (if n>m then n else m))|_=>none)
    |_=>none)
   |_=>none)
  |_=>none)
 |_=>none
def OL(b6:hf)(env:an)(σ:ag):Op→Option (ei×W)
 |.move x|.assign x=>match env.dg x with|none=>none|some a=>some ([],a)
 |.pick c x y=>match env.dg c with
  |some (.bool true)=>(match env.dg x with|none=>none|some a=>some ([],a))
  |some (.bool false)=>(match env.dg y with|none=>none|some a=>some ([],a))
  |_=>none
 |.fieldAddr T x f=>match b6.get T with
  |some ⟨_,_,_,.struct _ g0 _⟩=>(match g0[f]? with
   |none=>none
   |some (off,_)=>match env.dg x with
    |some (.ptr d p)=>some ([],.ptr d (p+off))
    |some (.gP cs)=>(match spine (cs.drop off)with|none=>none|some l=>some ([],.gP l))
    |_=>none)
  |_=>none
 |.field T x f=>match b6.get T with
  |some ⟨_,_,_,.struct _ g0 q1⟩=>(match g0[f]? with
   |none=>none
   |some (off,n)=>match q1[f]? with
    |none=>none
    |some ej=>match env.dg x with
     |some (.agg cs)=>bif Nat.ble (off+n) cs.length then(match pY ej n (cs.drop off)with|none=>none|some a=>some ([],a))else none
     |_=>none)
  |_=>none
 |.load T x=>match b6.get T with
  |none=>none
  |some i=>match env.dg x with
   |some (.ptr d p)=>(match σ.get d with
    |some (.cells _ cs)=>bif (i.ej||Nat.blt 0 i.sz)&&Nat.ble (p+i.sz) cs.length then(match pY i.ej i.sz (cs.drop p)with|none=>none|some a=>some ([d],a))else none
    |_=>none)
   |some (.gP cs)=>bif (i.ej||Nat.blt 0 i.sz)&&Nat.ble i.sz cs.length then(match pY i.ej i.sz cs with|none=>none|some a=>some ([],a))else none
   |_=>none
 |.binOp op T x y _=>match env.dg x with
  |some (.int k m)=>(match env.dg y with
   |some (.int gK n)=>bif decide (k=gK)then(match It op k m n with|none=>none|some a=>some ([],a))else none
   |_=>none)
  |some (.bool a)=>(match b6.get T with
   |some ⟨_,_,_,.bool⟩=>(match env.dg y with
    |some (.bool b)=>(match op with
     |.eql=>some ([],.bool (a==b))
     |.neq=>some ([],.bool (!(a==b)))
     |_=>none)
    |_=>none)
   |_=>none)
  |_=>none
 |.unOp op _ x=>match op with
  |.not=>(match env.dg x with|some (.bool b)=>some ([],.bool (!b))|_=>none)
  |.neg=>(match env.dg x with|some (.int k n)=>some ([],.int k (k.wrap (0-n)))|_=>none)
  |_=>none
 |.convert T bl x=>match b6.get T with
  |some ⟨_,_,_,.int _⟩=>(match b6.get bl with
   |some ⟨_,_,_,.int gK⟩=>(match env.dg x with|some (.int _ n)=>some ([],.int gK (gK.wrap n))|_=>none)
   |_=>none)
  |_=>none
 |.extract x j=>match env.dg x with
  |some (.dm vs)=>(match vs[j]? with|none=>none|some a=>some ([],a))
  |_=>none
 |.nilCheck x=>match env.dg x with
  |some (.ptr d p)=>some ([],.ptr d p)
  |some (.gP cs)=>some ([],.gP cs)
  |_=>none
 |.build T parts=>match b6.get T with
  |some ⟨_,_,_,.struct zs g0 _⟩=>(match env.wK parts.toList with
   |none=>none
   |some ps=>match D1 g0 (qL zs) ps with|none=>none|some cs=>some ([],.agg cs))
  |_=>none
 |.buildSlice T len parts=>match b6.get T with
  |some ⟨_,_,_,.slice _ sz _ _⟩=>bif Nat.beq parts.size len&&(Nat.ble (len*sz) 65536&&Nat.ble len 65536)then(match env.wK parts.toList with
   |none=>none
   |some ps=>match yU sz 0 (EO ps)with
    |none=>none
    |some xs=>bif mE xs.flatten then some ([],.bf true xs)else none)else none
  |_=>none
 |.makeFunc fn first aT=>match fn with
  |.func f=>(match first.toList with
   |[]=>(match env.qj aT.toList with|none=>none|some l=>some ([],.fn f l))
   |_=>none)
  |_=>none
 |.call c=>VK b6 env σ c
 |_=>none
end
section
section
variable {P:Program}{N:Nat}{ids:ei}{b6:hf}{o:Oper}{env:an}{σ:ag}
def azw{G:c7}{ev:Operand→W}{T:TypeId}{x:Operand}{k:IntKind}{n:Int}(h:o.op=.unOp .neg T x)(u:ev x=.int k n):Yields G o ev σ [] [] (.int k (k.wrap (0-n))):=
 .pure λ_ _ I β w bp _ _ hop=>by
  have h1:=hop x (by simp[h,Op.operands]);rw[u]at h1;have h1:=jT h1
  exact⟨.int k (k.wrap (0-n)),by simp only[execOp,h,h1,Op.unary,Op.intArith];rfl,by simp[aD,bk]⟩
def azx{G:c7}{ev:Operand→W}{T bl:TypeId}{x y:Operand}{k:IntKind}{m n:Int}(h:o.op=.binOp .quo T x y bl)(u:ev x=.int k m)(ak:ev y=.int k n)(be:n≠0):Yields G o ev σ [] [] (.int k (k.wrap (m.tdiv n))):=
 b5.int h u ak (by decide) (λw=>by simp[Op.intDiv,be];rfl) (λ_ _=>by simp only[aD,bk])
def Bs(xs:List (List W)):xs.map id=xs:=List.map_id xs
def ayP{G:c7}{o:Oper}{ev:Operand→W}{σ:ag}{T E sz len d:Nat}{parts:Array (Nat×Operand)}{zs:fK}{xs:List (List W)}(h:o.op=.buildSlice T len parts)(aR:kz G.P T E sz zs)(aP:parts.size=len)(Z:len*sz≤65536∧len≤65536)
  (bc:we sz 0 (parts.toList.map λp=>(p.1,ev p.2))=some xs) (ah:mE xs.flatten=true) (hi:G.ids.contains d=false):Yields G o ev ((d,.slice E sz xs 0 false)::σ) [d] [d] (.own d):=by
 intro aL cx I β w bp cz aA hm hop;have h1:∀p∈parts.toList,aD I β (ev p.2) (bp p.2):=λp aK=>hop p.2 (by simp only[h,Op.operands];simpa using ⟨p.1,by simpa using aK⟩);obtain⟨z,jB,jI⟩:=aR.zero w
 let L:jj:=(Array.range (len*sz)).map ((if len*sz=0 then #[]else z.cells)[·%(if len*sz=0 then #[]else z.cells:jj).size]!)
 have yq:L.size=len*sz:=by simp[L]
 obtain⟨r,b8,iG,hW,qY,r4,y3,xG⟩:=Kw (I:=I) (β:=β) sz (parts.toList.map λp=>(p.1,ev p.2)) (parts.toList.map λp=>(p.1,bp p.2)) 0 L xs
  ⟨by simp,λj p q aY cA=>by
   simp only[List.getElem?_map]at aY cA;cases u:parts.toList[j]? with
   |none=>rw[u]at aY;cases aY
   |some y=>
    rw[u]at aY cA;simp only[Option.map_some,Option.some.injEq]at aY cA;subst aY cA;exact⟨rfl,h1 y (List.mem_of_getElem? u)⟩⟩ bc (by simp[yq,aP])
 have CG:r.toList=b8:=by
  rw[qY];have e0:L.toList.drop ((0+(parts.toList.map λp=>(p.1,ev p.2)).length)*sz)=[]:=drop_of_length_le (by simp[yq,aP]);rw[e0];simp
 have mJ:xs.length=len:=by rw[xG];simp[aP]
 have gF:(execOp bp o).run G.P w=.ok (.value (.slice (some ⟨w.heap.size,0,none⟩) len len)) (w.alloc (.cells r E)):=by
  have FA:¬(len*sz>2 ^ 24):=by have:(2:Nat) ^ 24=16777216:=by decide
                               omega
  have pS:Instr.fill (λi=>some (i*sz,sz)) L (parts.map λ(i,x)=>(i,bp x)).toList=some r:=by simpa using iG
  simp only[execOp,h,Instr.buildSlice,Sem.run_bind,run_underlying aR.ia,aR.size,Result.andThen_ok,FA,if_false];by_cases bA:len*sz=0
  ·have uF:L=(Array.range (len*sz)).map ((#[]:jj)[·%(#[]:jj).size]!):=by simp only[L,bA,if_true]
   rw[uF]at pS;simp only[bA,if_true,Sem.run_bind,Sem.run_pure,Result.andThen_ok]at pS ⊢;simp only[pS];simp[newRow]
  ·have uF:L=(Array.range (len*sz)).map (z.cells[·%z.cells.size]!):=by simp only[L,bA,if_false]
   rw[uF]at pS;simp only[bA,if_false,Sem.run_bind,jB,Sem.run_pure,Result.andThen_ok];simp only[pS];simp[newRow]
 rw[gF];have mK:=hm d (by simp);have tE:=y3;have Cw:=yK xs tE;have Zf:b8.length=xs.length*sz:=by rw[tf _ _ r4,Cw]
 refine⟨I,iL β d (.slice (some ⟨w.heap.size,0,none⟩) len len),by simp only[aD];exact⟨(h0 _ _ _).symm,rfl⟩,?_,dc.refl I,λx u=>iJ β _ (λe=>u (by simp[e]))⟩;refine aA.real (by simpa using hi) mK rfl λaZ c5=>?_;rw[cz d (by simp),axp,if_pos rfl]at c5;injection c5 with c5
 subst c5;simp only[br,h0];refine .inr (.inr ⟨w.heap.size,len,r,by rw[mJ],by omega,by simp only[maxLen];omega,heap_alloc_new w _,?_,?_,tE,by omega,(λh=>by cases h),λo _=>aA.jS (Nat.le_refl _) o,.inl aA.size⟩)
 ·rw[←Array.length_toList,CG,Zf,mJ]
 ·rw[CG,take_of_length_le (by rw[Zf];exact Nat.le_refl _)];exact cw.closed _ _ ah r4
def azg{G:c7}{ev:Operand→W}{hH:Operand}{args:Array Operand}{k:Array TypeId}{f:FuncId}{aT dH:List W}{σs:ag}{r:W}(h:o.op=.call ⟨.value hH,args,k⟩)(bc:ev hH=.h9 f aT)
  (qM:∀(args:jj) (w:World),(callFunc f args).run G.P w=.ok (.enter f args) w) (Z:∀p∈σs,σ.get p.1=some p.2) (aI:n9 σs (args.toList.map ev) dH)
  (bI:dn G.P f [] (dH++aT) r) (aC:r.closed=true):Yields G o ev σ [] σs.ids r:=by
 intro aL cx I β w bp cz aA _ hop;have kS:=hop hH (by simp[h,Op.operands,Call.operands]);rw[bc]at kS;simp only[aD,bk]at kS;obtain⟨vs,kS,oA⟩:=kS;rw[G8 h kS qM]
 have mI:∀d o,σs.get d=some o→aL.get d=some o:=λd o aa=>by
  obtain⟨p,cM,dY,fJ⟩:=tL σs d o aa;rw[cz d (by rw[←dY];exact List.mem_map.2 ⟨p,cM,rfl⟩),←dY,←fJ];exact Z p cM
 have AK:=aA.sub mI;have pG:=Bb ev bp args.toList λx u=>hop x (by simp only[h,Op.operands,Call.operands];simp;right;simpa using u);have xE:=tg _ _ _ _ (aI.rep AK _ pG) (cD.rep β _ _ oA);have gi:=aA.BP (P:=G.P) (ey:=[]) (by simp);refine Calls.mono (bI _ w I β _ gi xE) ?_;rintro e w' ⟨v,he,r',σ2,bm,β',⟨sB,lK⟩,jx,gz⟩;subst sB lK;obtain⟨h1,D,aj⟩:=aA.after (ey:=[]) (by simp) gz [] (by simp) (ax3 _) rfl;refine⟨v,he,bm,β,?_,?_,D,λ_ _=>rfl⟩
 ·exact bk.rep β _ _ (aD.closed r' v aC jx)
 ·refine({h1 with}:cG G cx bm β ([]++aL.minus (ag.ids [])) w').sub λd o aa=>?_;rw[axQ,axz];simpa [ag.get,ag.ids]using aa
def azm{G:c7}{ev:Operand→W}{x y:Operand}{k gK:IntKind}{m n:Int}{ts:Array TypeId}(h:o.op=.call ⟨.builtin .min,#[x,y],ts⟩)(u:ev x=.int k m)(ak:ev y=.int gK n):Yields G o ev σ [] [] (.int k (if n<m then n else m)):=
 .pure λ_ _ I β w bp _ _ zG=>by
  have h1:=zG x (by simp[h,Op.operands,Call.operands]);rw[u]at h1;have h1:=jT h1
  have D:=zG y (by simp[h,Op.operands,Call.operands]);rw[ak]at D;have D:=jT D
  exact⟨.int k (if n<m then n else m),by simp[execOp,h,resolve,invoke,builtin,Builtin.min_,Builtin.min2,h1,D],by simp[aD,bk]⟩
def azl{G:c7}{ev:Operand→W}{x y:Operand}{k gK:IntKind}{m n:Int}{ts:Array TypeId}(h:o.op=.call ⟨.builtin .max,#[x,y],ts⟩)(u:ev x=.int k m)(ak:ev y=.int gK n):Yields G o ev σ [] [] (.int k (if n>m then n else m)):=
 .pure λ_ _ I β w bp _ _ zG=>by
  have h1:=zG x (by simp[h,Op.operands,Call.operands]);rw[u]at h1;have h1:=jT h1
  have D:=zG y (by simp[h,Op.operands,Call.operands]);rw[ak]at D;have D:=jT D
  exact⟨.int k (if n>m then n else m),by simp[execOp,h,resolve,invoke,builtin,Builtin.max_,Builtin.max2,h1,D],by simp[aD,bk]⟩
def afa{op:BinOp}{T bl:TypeId}{x y:Operand}{k:IntKind}{m n:Int}{a:W}(h:o.op=.binOp op T x y bl)(u:env.ev x=.int k m)(ak:env.ev y=.int k n)(Y:It op k m n=some a):Yields ⟨P,N,ids⟩ o env.ev σ [] [] a:=by
 cases op<;>simp only[It,Option.some.injEq]at Y<;>first|cases Y|skip
 all_goals (try subst Y)
 ·exact ayQ h u ak
 ·exact azs h u ak
 ·exact azn h u ak
 ·exact b5.and h u ak
 ·exact b5.or h u ak
 ·exact b5.xor h u ak
 ·exact b5.andNot h u ak
 ·exact b5.eql h u ak
 ·exact b5.neq h u ak
 ·exact b5.lss h u ak
 ·exact b5.leq h u ak
 ·exact b5.gtr h u ak
 ·exact b5.geq h u ak
def ahp(bn:j7 P b6){R:ei}{bZ:W}(h:OL b6 env σ o.op=some (R,bZ)):Yields ⟨P,N,ids⟩ o env.ev σ [] R bZ:=by
 cases ar:o.op<;>rw[ar]at h<;>simp only[OL]at h
 case move x=>
  cases u:env.dg x with
  |none=>rw[u]at h;cases h
  |some a=>rw[u]at h;cases h;rw[←axo u];exact b5.move ar
 case assign x=>
  cases u:env.dg x with
  |none=>rw[u]at h;cases h
  |some a=>rw[u]at h;cases h;rw[←axo u];exact b5.assign ar
 case pick c x y=>
  split at h
  ·rename_i ah;cases u:env.dg x with
   |none=>rw[u]at h;cases h
   |some a=>rw[u]at h;cases h;rw[←axo u];exact azd ar (axo ah) rfl
  ·rename_i ah;cases u:env.dg y with
   |none=>rw[u]at h;cases h
   |some a=>rw[u]at h;cases h;rw[←axo u];exact aze ar (axo ah) rfl
  ·cases h
 case fieldAddr T x f=>
  split at h
  ·rename_i sz ej atJ zs g0 q1 aR;split at h
   ·cases h
   ·rename_i off n bc;have hk:=(kg.get bn.tys aR).kd;simp only[nS]at hk;split at h
    ·rename_i d p u;cases h;exact ay0 ar (axo u) (hk.2.1 _ _ _ bc)
    ·rename_i cs u;cases Z:spine (cs.drop off)with
     |none=>rw[Z]at h;cases h
     |some l=>rw[Z]at h;cases h;rw[←v2 Z];exact ay1 ar (axo u) (hk.2.1 _ _ _ bc)
    ·cases h
  ·cases h
 case field T x f=>
  split at h
  ·rename_i sz ej atJ zs g0 q1 aR;split at h
   ·cases h
   ·rename_i off n bc;split at h
    ·cases h
    ·rename_i ach anT;have hk:=(kg.get bn.tys aR).kd;simp only[nS]at hk;split at h
     ·rename_i cs u;cases Y:Nat.ble (off+n) cs.length with
      |false=>rw[Y]at h;cases h
      |true=>
       rw[Y]at h;simp only[cond_true]at h;cases Z:pY ach n (cs.drop off)with
       |none=>rw[Z]at h;cases h
       |some a=>rw[Z]at h;cases h;exact bM.field ar (axo u) (hk.2.2 _ _ _ _ bc anT) Y Z
     ·cases h
  ·cases h
 case load T x=>
  split at h
  ·cases h
  ·rename_i i aR;have hk:=(kg.get bn.tys aR).ty;split at h
   ·rename_i d p u;split at h
    ·rename_i bl cs aa;cases Y:((i.ej||Nat.blt 0 i.sz)&&Nat.ble (p+i.sz) cs.length)with
     |false=>rw[Y]at h;cases h
     |true=>
      rw[Y]at h;simp only[cond_true]at h;simp only[Bool.and_eq_true]at Y;cases Z:pY i.ej i.sz (cs.drop p)with
      |none=>rw[Z]at h;cases h
      |some a=>rw[Z]at h;cases h;exact az2 ar (axo u) hk aa Y.1 Y.2 Z
    ·cases h
   ·rename_i cs u;cases Y:((i.ej||Nat.blt 0 i.sz)&&Nat.ble i.sz cs.length)with
    |false=>rw[Y]at h;cases h
    |true=>
     rw[Y]at h;simp only[cond_true]at h;simp only[Bool.and_eq_true]at Y;cases Z:pY i.ej i.sz cs with
     |none=>rw[Z]at h;cases h
     |some a=>rw[Z]at h;cases h;exact az4 ar (axo u) hk Y.1 Y.2 Z
   ·cases h
 case binOp op T x y bl=>
  split at h
  ·rename_i k m u;split at h
   ·rename_i gK n ak;cases oB:decide (k=gK)with
    |false=>rw[oB]at h;cases h
    |true=>
     rw[oB]at h;simp only[cond_true]at h;have:=of_decide_eq_true oB;subst this;cases Y:It op k m n with
     |none=>rw[Y]at h;cases h
     |some a=>rw[Y]at h;cases h;exact afa ar (axo u) (axo ak) Y
   ·cases h
  ·rename_i a u;split at h
   ·rename_i aR;have hk:=(kg.get bn.tys aR).kd;simp only[nS]at hk;split at h
    ·rename_i b ak;split at h
     ·cases h;exact azj ar (axo u) (axo ak) hk
     ·cases h;exact azk ar (axo u) (axo ak) hk
     ·cases h
    ·cases h
   ·cases h
  ·cases h
 case unOp op T x=>
  split at h
  ·split at h
   ·rename_i b u;cases h;exact b5.not ar (axo u)
   ·cases h
  ·split at h
   ·rename_i k n u;cases h;exact azw ar (axo u)
   ·cases h
  ·cases h
 case convert T bl x=>
  split at h
  ·rename_i aR;split at h
   ·rename_i gK Pe;split at h
    ·rename_i k n u;cases h
     have h1:=(kg.get bn.tys aR).kd;have D:=(kg.get bn.tys Pe).kd;simp only[nS]at h1 D;exact b5.convert ar (axo u) ⟨_,h1⟩ D
    ·cases h
   ·cases h
  ·cases h
 case extract x j=>
  split at h
  ·rename_i vs u;cases aY:vs[j]? with
   |none=>rw[aY]at h;cases h
   |some a=>rw[aY]at h;cases h;exact b5.extract ar (axo u) aY
  ·cases h
 case nilCheck x=>
  split at h
  ·rename_i d p u;cases h;exact ayS ar (axo u)
  ·rename_i cs u;cases h;exact ayT ar (axo u)
  ·cases h
 case build T parts=>
  split at h
  ·rename_i aR;have hk:=(kg.get bn.tys aR).kd;simp only[nS]at hk;split at h
   ·cases h
   ·rename_i ps aK;split at h
    ·cases h
    ·rename_i cs bc;cases h;exact bM.build ar hk.1 aK bc
  ·cases h
 case buildSlice T len parts=>
  split at h
  ·rename_i aR;have hk:=(kg.get bn.tys aR).kd;simp only[nS]at hk;generalize Y:(Nat.beq parts.size len&&_)=fc at h;cases fc with
   |false=>cases h
   |true=>
    simp only[cond_true]at h;rw[Bool.and_eq_true]at Y;split at h
    ·cases h
    ·rename_i ps aK;split at h
     ·cases h
     ·rename_i xs bc;cases ah:mE xs.flatten with
      |false=>rw[ah]at h;cases h
      |true=>rw[ah]at h;cases h;exact(b5.buildSlice ar hk.2.2 (by simpa using Y.1) (by simpa using Y.2) (by rw[←Ml,ax4 aK];exact Kv _ bc) ah).off
  ·cases h
 case makeFunc fn first aT=>
  split at h
  ·rename_i f;split at h
   ·rename_i bc;split at h
    ·cases h
    ·rename_i l aP;cases h
     have:first=#[]:=by simpa using bc
     subst this;exact bM.makeFunc ar aP
   ·cases h
  ·cases h
 case call c=>
  obtain⟨cl,args,tys⟩:=c;simp only[VK]at h;split at h
  ·rename_i b;split at h
   ·split at h
    ·rename_i x k8;have:args=#[x]:=Array.toList_inj.1 (by simpa using k8);subst this;split at h
     ·rename_i T Av;have:tys=#[T]:=Array.toList_inj.1 (by simpa using Av);subst this;split at h
      ·rename_i aR;have hk:=(kg.get bn.tys aR).kd;simp only[nS]at hk;split at h
       ·rename_i f xs u;cases h;exact ayF (rs:=xs) (enc:=id) ar rfl (by rw[Bs];exact axo u) hk.1.ia
       ·rename_i u;cases h;exact azp ar rfl (axo u) hk.1.ia
       ·rename_i d u;split at h
        ·rename_i aa;cases h;exact azq (enc:=id) ar rfl (axo u) (by rw[Bs];exact aa) hk.1.ia
        ·rename_i xs aa;cases h;exact Yields.win aa (ayF (rs:=xs) (enc:=id) ar rfl (by rw[Bs];exact S2 (axo u)) hk.1.ia)
        ·cases h
       ·cases h
      ·rename_i aR;have hk:=(kg.get bn.tys aR).kd;simp only[nS]at hk;split at h
       ·rename_i s u;cases h;exact azr ar rfl (axo u) hk
       ·cases h
      ·cases h
     ·cases h
    ·cases h
   ·split at h
    ·rename_i iA j6 k8;have:args=#[iA,j6]:=Array.toList_inj.1 (by simpa using k8);subst this;split at h
     ·rename_i k m u;split at h
      ·rename_i gK n ak;cases h;exact azm ar (axo u) (axo ak)
      ·cases h
     ·cases h
    ·cases h
   ·split at h
    ·rename_i iA j6 k8;have:args=#[iA,j6]:=Array.toList_inj.1 (by simpa using k8);subst this;split at h
     ·rename_i k m u;split at h
      ·rename_i gK n ak;cases h;exact azl ar (axo u) (axo ak)
      ·cases h
     ·cases h
    ·cases h
   ·cases h
  ·cases h
 all_goals cases h
end
end
section
def vf(env:an)(c:Call):Option (FuncId×List W):=match c.callee with
 |.value hH=>(match env.dg hH with
  |some (.fn f aT)=>(match env.qj c.args.toList with|none=>none|some ps=>some (f,ps++aT))
  |_=>none)
 |_=>none
variable {dU:List W}{f:FuncId}
def Bd{env:an}{c:Call}(h:vf env c=some (f,dU)):∃hH args k aT ps,c=⟨.value hH,args,k⟩∧env.ev hH=.fn f aT∧env.qj args.toList=some ps∧dU=ps++aT:=by
 obtain⟨cl,args,k⟩:=c;simp only[vf]at h;split at h
 ·rename_i hH;split at h
  ·rename_i n0 aT bc;split at h
   ·cases h
   ·rename_i ps aK;cases h
    exact⟨hH,args,k,aT,ps,rfl,axo bc,aK,rfl⟩
  ·cases h
 ·cases h
def Nn(env:an)(c:Call):Option (FuncId×List W×List W):=match c.callee with
 |.value hH=>(match env.dg hH with
  |some (.h9 f aT)=>(match env.qj c.args.toList with|none=>none|some ps=>some (f,ps,aT))
  |_=>none)
 |_=>none
def ad3{env:an}{c:Call}{px:List W}(h:Nn env c=some (f,dU,px)):∃hH args k,c=⟨.value hH,args,k⟩∧env.ev hH=.h9 f px∧env.qj args.toList=some dU:=by
 obtain⟨cl,args,k⟩:=c;simp only[Nn]at h;split at h
 ·rename_i hH;split at h
  ·rename_i n0 aT bc;split at h
   ·cases h
   ·rename_i ps aK;cases h
    exact⟨hH,args,k,rfl,axo bc,aK⟩
  ·cases h
 ·cases h
def On:W→Option W
 |.fn f l=>bif mE l then some (.h9 f l)else none
 |a=>some a
def afb{σ:ag}{a b c:W}(h:jk σ a b)(Y:On b=some c):jk σ a c:=by
 cases b<;>simp only[On,Option.some.injEq]at Y<;>first|(subst Y;exact h)|skip
 rename_i f l;cases ah:mE l with
 |false=>rw[ah]at Y;cases Y
 |true=>rw[ah]at Y;cases Y;exact .h9 h ah
def By(σ:ag):Nat→List W→Option (List W)
 |_,[]=>some []
 |m,x::r=>match(bif Nat.beq (m%2) 1 then some x else match js [] σ x with|none=>none|some a=>On a)with
  |none=>none
  |some a=>match By σ (m / 2) r with
   |none=>none
   |some l=>some (a::l)
def Lg{σ:ag}:∀{m:Nat} {a b:List W},By σ m a=some b→n9 σ a b
 |m,[],b,h=>by simp only[By,Option.some.injEq]at h;subst h;exact .nil
 |m,x::r,b,h=>by
  simp only[By]at h;split at h
  ·cases h
  ·rename_i a aI;split at h
   ·cases h
   ·rename_i l aP;simp only[Option.some.injEq]at h;subst h
    refine .cons ?_ (Lg aP);cases Y:Nat.beq (m%2) 1 with
    |true=>rw[Y]at aI;cases aI;exact .refl _
    |false=>
     rw[Y]at aI;simp only[cond_false]at aI;split at aI
     ·cases aI
     ·rename_i a0 YD;exact afb (sG YD) aI
def ug(env:an)(d:Int):Option Operand→kr
 |none=>some d
 |some x=>match env.dg x with|some (.int _ n)=>some n|_=>none
variable {x:Option Operand}
def MG{env:an}{n:Int}(h:ug env 0 x=some n):zc env.ev x∧ni env.ev x=n:=by
 cases x with
 |none=>simp only[ug,Option.some.injEq]at h;exact⟨trivial,h⟩
 |some x=>
  simp only[ug]at h;split at h
  ·rename_i k m hm;cases h;exact⟨⟨k,_,axo hm⟩,by simp only[ni,axo hm]⟩
  ·cases h
def MH{env:an}{l:Nat}{n:Int}(h:ug env (l:Int) x=some n):zc env.ev x∧uf env.ev l x=n:=by
 cases x with
 |none=>simp only[ug,Option.some.injEq]at h;exact⟨trivial,h⟩
 |some x=>
  simp only[ug]at h;split at h
  ·rename_i k m hm;cases h;exact⟨⟨k,_,axo hm⟩,by simp only[uf,axo hm]⟩
  ·cases h
def Rb(env:an)(σ:ag)(b6:hf):Op→Option c9
 |.store T x y=>match b6.get T with
  |none=>none
  |some i=>match env.dg x with
   |some (.ptr d p)=>(match env.dg y with
    |none=>none
    |some a=>match σ.get d with
     |some (.cells bl cs)=>(match tP a with
      |none=>none
      |some ca=>bif a.flat&&Nat.beq ca.length i.sz&&Nat.ble (p+i.sz) cs.length then(match spine (iT cs p ca)with
       |none=>none
       |some oR=>some (.e [d] [] .undef (σ.set d (.cells bl oR))))else none)
     |_=>none)
   |_=>none
 |_=>none
def x8(b6:hf)(ids:ei)(env:an)(d:Nat):Op→Option c9
 |.alloc T=>match b6.get T with
  |some ⟨_,_,some zs,_⟩=>(match spine (qL zs)with|none=>none|some cs=>bif !ids.contains d then some (.v d (.cells T cs) (.ptr d 0))else none)
  |_=>none
 |.box T x=>match env.dg x with
  |none=>none
  |some a=>match tP a with
   |none=>none
   |some cs=>bif a.flat&&!a.refs (Nat.beq d)&&!ids.contains d then some (.v d (.cells T cs) (.ptr d 0))else none
 |.buildSlice T len parts=>match b6.get T with
  |some ⟨_,_,_,.slice E sz _ _⟩=>bif Nat.beq parts.size len&&(Nat.ble (len*sz) 65536&&Nat.ble len 65536)&&!ids.contains d then(match env.wK parts.toList with
   |none=>none
   |some ps=>match yU sz 0 (EO ps)with
    |none=>none
    |some xs=>bif mE xs.flatten then some (.v d (.slice E sz xs 0 false) (.own d))else none)else none
  |_=>none
 |.makeMap T none=>match b6.get T with
  |some ⟨_,_,_,.map K E _⟩=>bif !ids.contains d then some (.v d (.map K E []) (.ep d))else none
  |_=>none
 |_=>none
def JJ(b6:hf)(env:an)(σ:ag)(sz:Nat)(row:List W):Op→Option (c9×cW)
 |.indexAddr T x y=>match b6.get T with
  |some ⟨_,_,_,.slice _ jh _ _⟩=>(match env.dg y with
   |some (.int _ i)=>(match env.dg x with
    |some (.bf _ xs)=>(match spine row with
     |none=>none
     |some r=>bif Nat.beq jh sz then some (.y [] (.gP r),([.bf false xs,.int .i64 i],[]))else none)
    |some (.own d)=>(match σ.get d with
     |some (.slice _ qT xs _ _)=>bif Nat.beq jh sz&&Nat.beq qT sz then some (.y [d] (.ptr d (i.toNat*sz)),([.bf false xs,.int .i64 i],[]))else none
     |some (.win _ _ xs)=>(match spine row with
      |none=>none
      |some r=>bif Nat.beq jh sz then some (.y [d] (.gP r),([.bf false xs,.int .i64 i],[]))else none)
     |_=>none)
    |_=>none)
   |_=>none)
  |_=>none
 |_=>none
def JY(b6:hf)(env:an)(σ:ag)(d sz off:Nat)(row:List W):Op→Option (c9×cW)
 |.load T x=>match b6.get T with
  |none=>none
  |some i=>match env.dg x with
   |some (.ptr fT p)=>(match σ.get d with
    |some (.slice _ jh xs _ _)=>bif Nat.beq fT d&&Nat.beq jh sz&&(i.ej||Nat.blt 0 i.sz)&&Nat.ble (off+i.sz) sz then(match pY i.ej i.sz (row.drop off)with
     |none=>none
     |some a=>some (.y [d] a,([.bf false xs,.ptr fT p],[])))else none
    |_=>none)
   |_=>none
 |_=>none
def KL(b6:hf)(env:an)(σ:ag)(d sz off k:Nat)(zs:List (List W)):Op→Option (c9×cW)
 |.store T x y=>match b6.get T with
  |none=>none
  |some i=>match env.dg x with
   |some (.ptr fT p)=>(match env.dg y with
    |none=>none
    |some a=>match tP (u3 a)with
     |none=>none
     |some ca=>match σ.get d with
      |some (.slice bl jh xs gK _)=>bif Nat.beq fT d&&Nat.beq jh sz&&Nat.beq gK k&&(u3 a).flat&&mE ca&&Nat.beq ca.length i.sz&&Nat.ble (off+i.sz) sz then
        some (.e [d] [] .undef (σ.set d (.slice bl jh zs gK false)),([.bf false xs,.ptr fT p,.agg ca],[]))else none
      |_=>none)
   |_=>none
 |_=>none
mutual
def W.owns:W→ei
 |.own d=>[d]
 |.agg cs=>Bz cs
 |.dm cs=>Bz cs
 |.fn _ cs=>Bz cs
 |_=>[]
def Bz:List W→ei
 |[]=>[]
 |x::r=>x.owns++Bz r
end
def Ky(env:an)(σ:ag)(r:W):Op→Option (c9×cW)
 |.call c=>match Nn env c with
  |none=>none
  |some (f,dU,px)=>match σ.at (Bz dU)with
   |none=>none
   |some nW=>match By nW 0 dU with
    |none=>none
    |some dH=>bif r.closed then some (.y nW.ids r,(.fn f px::dH,[]))else none
 |_=>none
def KC(env:an)(xH:Nat)(σ σs:ag)(r:W):Op→Option (c9×cW)
 |.call c=>match vf env c with
  |none=>none
  |some (f,dU)=>match σ.at (σs.ids++Bz dU)with
   |none=>none
   |some nW=>match By nW xH dU with
    |none=>none
    |some dH=>match nW.at σs.ids with
     |none=>none
     |some R8=>bif r.closed&&σs.clean (λd=>!(σs.ids++[]).contains d)then some (.y nW.ids r,(.fn f []::dH,R8))else none
 |_=>none
def JS(env:an)(σ:ag)(ds:ei)(r:W):Op→Option (c9×cW)
 |.call c=>match vf env c with
  |none=>none
  |some (f,dU)=>match σ.at ds with
   |none=>none
   |some σs=>match sN (Bx 9 σs) dU with
    |none=>none
    |some dH=>bif r.jG then some (.y σs.ids r,(.fn f []::dH,[]))else none
 |_=>none
def Jd(ids:ei)(env:an)(σ ey:ag)(news:ei)(r:W)(σ2:ag):Op→Option (c9×cW)
 |.call c=>match vf env c with
  |none=>none
  |some (f,dU)=>match tQ ey.ids σ dU with
   |none=>none
   |some dH=>match σ.at ey.ids with
    |none=>none
    |some Ws=>bif news.all (λd=>!ids.contains d&&(σ.get d).isNone)&&(σ.minus ey.ids).clean news.contains&&!r.refs (λd=>!(ey.ids++news).contains d)&&σ2.clean (λd=>!(ey.ids++news).contains d)then
      some (.e (ey.ids++news) news r (σ2++σ.minus ey.ids),(.fn f []::dH,Ws))else none
 |_=>none
def Je(ids:ei)(env:an)(σ:ag)(ds news:ei)(r:W)(σ2:ag):Op→Option (c9×cW)
 |.call c=>match vf env c with
  |none=>none
  |some (f,dU)=>match σ.at ds with
   |none=>none
   |some σs=>match sN (Bx 9 σs) dU with
    |none=>none
    |some dH=>bif news.all (λd=>!ids.contains d&&(σ.get d).isNone)&&σ.clean news.contains&&r.qS&&!r.refs (λd=>!news.contains d)&&σ2.clean (λd=>!news.contains d)then some (.e news news r (σ2++σ),(.fn f []::dH,[]))else none
 |_=>none
def I3(b6:hf)(ids:ei)(env:an)(σ:ag)(d2 sz bytes:Nat)(zs:List (List W)):Op→Option (c9×cW)
 |.call c=>match c.callee with
  |.builtin b=>(match b with
   |.append=>(match c.args.toList with
    |[s,x]=>(match c.argTypes.toList with
     |[T,ny]=>(match b6.get T with
      |some ⟨_,_,_,.slice E jh Yj _⟩=>bif Nat.beq T ny&&Nat.beq jh sz&&Nat.beq Yj bytes&&!ids.contains d2 then(match env.dg x with
       |none=>none
       |some oo=>match js [] σ oo with
        |some (.bf f bD)=>(match env.dg s with
         |some (.own d)=>(match σ.get d with
          |some (.slice bl qT xs k _)=>bif Nat.beq bl E&&Nat.beq qT sz&&(σ.minus [d]).clean [d2].contains then some (.e [d,d2] [d2] (.own d2) ((d2,.slice bl qT zs k false)::σ.minus [d]),([.bf false xs,.bf false bD],[]))else none
          |some (.win bl qT xs)=>bif Nat.beq bl E&&Nat.beq qT sz&&(σ.minus [d]).clean [d2].contains then some (.e [d,d2] [d2] (.own d2) ((d2,.win bl qT zs)::σ.minus [d]),([.bf false xs,.bf false bD],[]))else none
          |_=>none)
         |some .dh=>bif σ.clean [d2].contains then some (.e [d2] [d2] (.own d2) ((d2,.slice E jh zs 0 false)::σ),([.bf false [],.bf false bD],[]))else none
         |some (.bf true xs)=>bif σ.clean [d2].contains&&Nat.blt 0 bD.length then some (.e [d2] [d2] (.own d2) ((d2,.slice E jh zs 0 false)::σ),([.bf false xs,.bf false bD],[]))else none
         |_=>none)
        |_=>none)else none
      |_=>none)
     |_=>none)
    |_=>none)
   |_=>none)
  |_=>none
 |_=>none
def D5:W→ei
 |.own d=>[d]
 |_=>[]
def G2(b6:hf)(env:an)(σ:ag)(sz:Nat)(zs:List (List W)):Op→Option (c9×cW)
 |.slice T x lo hi none=>match b6.get T with
  |some ⟨_,_,_,.slice _ jh _ _⟩=>(match env.dg x with
   |none=>none
   |some oo=>match js [] σ oo with
    |some (.bf f xs)=>(match ug env 0 lo with
     |none=>none
     |some a=>match ug env (xs.length:Int) hi with
      |none=>none
      |some b=>bif Nat.beq jh sz then some (.y (D5 oo) (.bf false zs),([.bf false xs,.int .i64 a,.int .i64 b],[]))else none)
    |_=>none)
  |_=>none
 |_=>none
def Dt(b6:hf)(env:an)(σ:ag)(sz:Nat)(zs:List (List W)):Op→Option (c9×cW)
 |.slice T x lo (some hi) (some pZ)=>match b6.get T with
  |some ⟨_,_,_,.slice _ jh _ _⟩=>(match env.dg x with
   |none=>none
   |some oo=>match js [] σ oo with
    |some (.bf f xs)=>(match ug env 0 lo with
     |none=>none
     |some a=>match ug env (xs.length:Int) (some hi)with
      |none=>none
      |some b=>match ug env (xs.length:Int) (some pZ)with
       |none=>none
       |some ek=>bif Nat.beq jh sz then some (.y (D5 oo) (.bf true zs),([.bf false xs,.int .i64 a,.int .i64 b,.int .i64 ek],[]))else none)
    |_=>none)
  |_=>none
 |_=>none
def DT(b6:hf)(ids:ei)(env:an)(σ:ag)(d2 sz:Nat)(zs:List (List W)):Op→Option (c9×cW)
 |.slice T x lo none none=>match b6.get T with
  |some ⟨_,_,_,.slice _ jh _ _⟩=>(match env.dg x with
   |some (.own d)=>(match σ.get d with
    |some (.win bl qT xs)=>(match ug env 0 lo with
     |none=>none
     |some a=>bif Nat.beq jh sz&&Nat.beq qT sz&&!ids.contains d2&&(σ.minus [d]).clean [d2].contains then some (.e [d,d2] [d2] (.own d2) ((d2,.win bl qT zs)::σ.minus [d]),([.bf false xs,.int .i64 a],[]))else none)
    |_=>none)
   |_=>none)
  |_=>none
 |_=>none
def Ks(env:an):Op→Option (c9×cW)
 |.binOp op _ x y _=>match env.dg x with
  |some (.int k m)=>(match env.dg y with
   |some (.int gK n)=>bif decide (k=gK)then(match op with
    |.quo=>some (.y [] (.int k (k.wrap (m.tdiv n))),([.int .i64 n],[]))
    |.rem=>some (.y [] (.int k (m.tmod n)),([.int .i64 n],[]))
    |_=>none)else none
   |_=>none)
  |_=>none
 |_=>none
def KH(env:an):Op→Option (c9×cW)
 |.binOp op _ x y _=>match env.dg x with
  |some (.int k m)=>(match env.dg y with
   |some (.int _ n)=>(match op with
    |.shl=>some (.y [] (.int k (k.wrap (m*2 ^ min n.toNat k.bits))),([.int .i64 n],[]))
    |.shr=>some (.y [] (.int k (m.fdiv (2 ^ min n.toNat k.bits))),([.int .i64 n],[]))
    |_=>none)
   |_=>none)
  |_=>none
 |_=>none
def Iv(b6:hf)(env:an)(b:UInt8):Op→Option (c9×cW)
 |.index T x y=>match b6.get T with
  |some ⟨_,_,_,.str⟩=>(match env.dg x with
   |some (.str s)=>(match env.dg y with
    |some (.int _ n)=>some (.y [] (.int .u8 (b.toNat:Int)),([.str s,.int .i64 n],[]))
    |_=>none)
   |_=>none)
  |_=>none
 |_=>none
def JW(b6:hf)(env:an)(σ:ag)(E:Nat)(k:IntKind)(a:W)(b:Bool):Op→Option (c9×cW)
 |.lookup T x y ok=>match b6.get T with
  |some ⟨_,_,_,.map K l9 gK⟩=>(match env.dg x with
   |some (.ep d)=>(match env.dg y with
    |some (.int bV n)=>(match σ.get d with
     |some (.map iH vp bO)=>bif Nat.beq l9 E&&decide (gK=k)&&decide (bV=k)&&Nat.beq iH K&&Nat.beq vp l9 then some (.y [d] (bif ok then .dm [a,.bool b]else a),([.int .i64 n],[(0,.map 0 0 bO)]))else none
     |_=>none)
    |_=>none)
   |_=>none)
  |_=>none
 |_=>none
def Kb(b6:hf)(env:an)(σ:ag)(k:IntKind)(mM:List (W×W))(T:Nat)(x y z:Operand):Option (c9×cW):=match b6.get T with
  |some ⟨_,_,_,.map K l9 gK⟩=>(match env.dg x with
   |some (.ep d)=>(match env.dg y with
    |some (.int bV n)=>(match env.dg z with
     |some v=>(match σ.get d with
      |some (.map iH vp bO)=>bif decide (gK=k)&&decide (bV=k)&&Nat.beq iH K&&Nat.beq vp l9 then some (.e [d] [] .undef (σ.set d (.map iH vp mM)),([.int .i64 n,v],[(0,.map 0 0 bO)]))else none
      |_=>none)
     |_=>none)
    |_=>none)
   |_=>none)
  |_=>none
def Qz(b6:hf)(env:an)(σ:ag)(k:IntKind)(mM:List (W×W)):Op→Option (c9×cW)
 |.mapUpdate T x y z=>Kb b6 env σ k mM T x y z
 |.insert T x y z=>Kb b6 env σ k mM T x y z
 |_=>none
def JX(b6:hf)(env:an)(σ:ag)(k:IntKind)(n:Int):Op→Option (c9×cW)
 |.call c=>match c.callee with
  |.builtin b=>(match b with
   |.len=>(match c.args.toList with
    |[x]=>(match c.argTypes.toList with
     |[T]=>(match b6.get T with
      |some ⟨_,_,_,.map K l9 gK⟩=>(match env.dg x with
       |some (.ep d)=>(match σ.get d with
        |some (.map iH vp bO)=>bif decide (gK=k)&&Nat.beq iH K&&Nat.beq vp l9 then some (.y [d] (.int .i64 n),([],[(0,.map 0 0 bO)]))else none
        |_=>none)
       |_=>none)
      |_=>none)
     |_=>none)
    |_=>none)
   |_=>none)
  |_=>none
 |_=>none
def KP(env:an)(neg:Bool)(T:Nat)(r:Bool):Op→Option (c9×cW)
 |.binOp op bl x y _=>match env.dg x with
  |none=>none
  |some a=>match env.dg y with
   |none=>none
   |some b=>bif a.plain&&b.plain&&Nat.beq bl T then(match op with
    |.eql=>bif neg then none else some (.y [] (.bool r),([a,b],[]))
    |.neq=>bif neg then some (.y [] (.bool r),([a,b],[]))else none
    |_=>none)else none
 |_=>none
def KK(b6:hf)(env:an)(neg:Bool):Op→Option (c9×cW)
 |.binOp op T x y _=>match env.dg x with
  |none=>none
  |some a=>match env.dg y with
   |some .dh=>(match b6.get T with
    |some ⟨_,_,_,.slice _ _ _ _⟩=>(match op with
     |.eql=>bif neg then none else some (.y [] (.bool false),([a],[]))
     |.neq=>bif neg then some (.y [] (.bool true),([a],[]))else none
     |_=>none)
    |_=>none)
   |_=>none
 |_=>none
def Km(env:an)(T bl:Nat)(r:W):Op→Option (c9×cW)
 |.convert S Eh x=>match env.dg x with
  |none=>none
  |some a=>bif Nat.beq S T&&Nat.beq Eh bl then some (.y [] r,([a],[]))else none
 |_=>none
def Kl(env:an)(op:BinOp)(T:Nat)(r:W):Op→Option (c9×cW)
 |.binOp QL S x y _=>match env.dg x with
  |none=>none
  |some a=>match env.dg y with
   |none=>none
   |some b=>bif decide (QL=op)&&Nat.beq S T then some (.y [] r,([a,b],[]))else none
 |_=>none
def BA{P:Program}(b6:hf)(ids:ei)(o:Oper)(env:an)(σ:ag):Hint P→Option (c9×cW)
 |.E3=>match OL b6 env σ o.op with
  |some (R,bZ)=>some (.y R bZ,([],[]))
  |none=>match Rb env σ b6 o.op with
   |some s=>some (s,([],[]))
   |none=>none
 |.al d=>match x8 b6 ids env d o.op with|some s=>some (s,([],[]))|none=>none
 |.to h _ b _=>match BA b6 ids o env σ h with
  |some (.y R bZ,aZ)=>some (.y R b,(bZ::aZ.1,aZ.2))
  |_=>none
 |.ix sz _ _ row _=>JJ b6 env σ sz row o.op
 |.lo d sz _ _ off row _=>JY b6 env σ d sz off row o.op
 |.so d sz _ _ off _ zs _ k _=>KL b6 env σ d sz off k zs o.op
 |.rf _ _ _ r _ _=>Ky env σ r o.op
 |.ro xH _ σs _ r _ _=>KC env xH σ σs r o.op
 |.le ds _ _ r _ _=>JS env σ ds r o.op
 |.oU news _ ey _ r σ2 _ _=>Jd ids env σ ey news r σ2 o.op
 |.dl ds news _ _ r σ2 _ _ _=>Je ids env σ ds news r σ2 o.op
 |.gs _ _ f _=>f ids o.op env σ
 |.ap d2 sz bytes _ _ zs _=>I3 b6 ids env σ d2 sz bytes zs o.op
 |.sl sz _ _ _ zs _=>G2 b6 env σ sz zs o.op
 |.ws d2 sz _ _ zs _=>DT b6 ids env σ d2 sz zs o.op
 |.qr _ _=>Ks env o.op
 |.sh _ _=>KH env o.op
 |.is _ _ b _=>Iv b6 env b o.op
 |.lk E k _ _ a b _=>JW b6 env σ E k a b o.op
 |.u5 k _ _ _ mM _=>Qz b6 env σ k mM o.op
 |.lm k _ n _=>JX b6 env σ k n o.op
 |.KO neg T _ _ r _=>KP env neg T r o.op
 |.Ra neg _ _=>KK b6 env neg o.op
 |.s3 sz _ _ _ zs _=>Dt b6 env σ sz zs o.op
 |.pu T bl _ r _=>Km env T bl r o.op
 |.pb op T _ _ r _=>Kl env op T r o.op
def hK.mono{G:c7}{o:Oper}{ev:Operand→W}{σ:ag}{M news:ei}{Φ HL:W→ag→Prop}(h:hK G o ev σ M news Φ)(aK:∀a s,Φ a s→HL a s):hK G o ev σ M news HL:=by
 intro cx I β w bp aA hop;have:=h cx I β w bp aA hop;generalize (execOp bp o).run G.P w=r at this;cases r with
 |halt x w'=>exact this
 |ok n w'=>
  cases n<;>simp only[mN]at this ⊢
  ·obtain⟨a,s,bm,β',q,xC⟩:=this;exact⟨a,s,bm,β',aK _ _ q,xC⟩
  ·obtain⟨a,s,bm,β',q,xC⟩:=this;exact⟨a,s,bm,β',aK _ _ q,xC⟩
  ·exact Calls.mono this λ_ _ ⟨v,he,a,s,bm,β',q,xC⟩=>⟨v,he,a,s,bm,β',aK _ _ q,xC⟩
section
variable {P:Program}{N:Nat}{ids:ei}{b6:hf}{o:Oper}{env:an}{σ:ag}
def ahq(bn:j7 P b6){s:c9}(h:Rb env σ b6 o.op=some s):gh ⟨P,N,ids⟩ o env σ s:=by
 cases ar:o.op<;>rw[ar]at h<;>simp only[Rb]at h
 case store T x y=>
  split at h
  ·cases h
  ·rename_i i aR;have hk:=(kg.get bn.tys aR).ty;split at h
   ·rename_i d p u;split at h
    ·cases h
    ·rename_i a ak;split at h
     ·rename_i bl cs aa;split at h
      ·cases h
      ·rename_i ca yt;generalize Y:(a.flat&&_&&_)=fc at h;cases fc with
       |false=>cases h
       |true=>
        simp only[cond_true]at h;simp only[Bool.and_eq_true]at Y;split at h
        ·cases h
        ·rename_i oR Z;cases h
         exact⟨az3 ar (axo u) hk ak aa Y.1.1 yt Y.1.2 Y.2 Z,rfl⟩
     ·cases h
   ·cases h
 all_goals cases h
def ahr(bn:j7 P b6){d:Nat}{s:c9}(h:x8 b6 ids env d o.op=some s):gh ⟨P,N,ids⟩ o env σ s:=by
 cases ar:o.op<;>rw[ar]at h
 case alloc T=>
  simp only[x8]at h;split at h
  ·rename_i sz ej zs kd aR;have hz:=(kg.get bn.tys aR).as9 _ rfl;split at h
   ·cases h
   ·rename_i cs Z;cases hi:ids.contains d with
    |true=>rw[hi]at h;cases h
    |false=>rw[hi]at h;cases h;exact⟨hi,bM.alloc ar hz (v2 Z) hi⟩
  ·cases h
 case box T x=>
  simp only[x8]at h;split at h
  ·cases h
  ·rename_i a u;split at h
   ·cases h
   ·rename_i cs Z;generalize Y:(a.flat&&_&&_)=fc at h;cases fc with
    |false=>cases h
    |true=>
     cases h;simp only[Bool.and_eq_true,Bool.not_eq_true']at Y;exact⟨Y.2,bM.box ar u Y.1.1 Z Y.1.2 Y.2⟩
 case buildSlice T len parts=>
  simp only[x8]at h;split at h
  ·rename_i aR;have hk:=(kg.get bn.tys aR).kd;simp only[nS]at hk;generalize Y:(Nat.beq parts.size len&&_&&_)=fc at h;cases fc with
   |false=>cases h
   |true=>
    simp only[cond_true]at h;simp only[Bool.and_eq_true,Bool.not_eq_true']at Y;split at h
    ·cases h
    ·rename_i ps aK;split at h
     ·cases h
     ·rename_i xs bc;cases ah:mE xs.flatten with
      |false=>rw[ah]at h;cases h
      |true=>
       rw[ah]at h;cases h
       exact⟨Y.2,(ayP ar hk.2.2 (by simpa using Y.1.1) (by simpa using Y.1.2) (by rw[←Ml,ax4 aK];exact Kv _ bc) ah Y.2).off⟩
  ·cases h
 case makeMap T r=>
  cases r with
  |some r=>simp only[x8]at h;cases h
  |none=>
   simp only[x8]at h;split at h
   ·rename_i aR;cases hi:ids.contains d with
    |true=>rw[hi]at h;cases h
    |false=>rw[hi]at h;cases h;exact⟨hi,b5.makeMap ar hi⟩
   ·cases h
 all_goals (simp only[x8]at h;cases h)
def ayE{G:c7}{T E sz:Nat}{x y:Operand}{k:IntKind}{i:Int}{f:Bool}{ev:Operand→W}(xs:List (List W))(h:o.op=.indexAddr T x y)(u:ev x=.bf f xs)(ak:ev y=.int k i)(aR:ji G.P T E sz)
  (aP:∀e∈xs,e.length=sz) (hi:0≤i∧i<xs.length):Yields G o ev σ [] [] (.gP (el xs i)):=
 .pure λaL cx I β w bp cz aA hop=>by
  have h1:=hop x (by simp[h,Op.operands]);rw[u]at h1
  have D:=hop y (by simp[h,Op.operands]);rw[ak]at D;have D:=jT D
  simp only[aD,bk]at h1;obtain⟨a,c,h1,aj,aV,_,b4⟩:=h1;have cq:i.toNat<xs.length:=by omega
  rcases b4 with b4|⟨b,p,rfl,b4⟩
  ·subst b4;simp at cq
  ·have jm:=RF (sz:=sz) _ p i.toNat aP b4 cq;have nQ:xs.getD i.toNat []=el xs i:=by
    simp[getD_eq_getElem?_getD,cq,el]
   rw[nQ]at jm;refine⟨.pointer (some ⟨b,p+i.toNat*sz,none⟩),?_,by simp only[aD,bk];exact⟨b,_,rfl,jm⟩⟩;have e1:∀w,(underlying T).run G.P w=.ok (.slice E) w:=λw=>by simp[underlying,program,Sem.run,aR.ia]
   simp[execOp,h,h1,D,Instr.indexAt,asIntOf,e1,hi,aR.size,lG]
def ahs(bn:j7 P b6){sz:Nat}{xs:List (List W)}{i:Int}{row:List W}(cv:x5 sz xs i row){s:c9}{aZ:cW}(h:JJ b6 env σ sz row o.op=some (s,aZ))(he:aZ=([.bf false xs,.int .i64 i],[])):gh ⟨P,N,ids⟩ o env σ s:=by
 obtain⟨cM,dY,fJ,iy⟩:=cv;cases ar:o.op<;>rw[ar]at h
 case indexAddr T x y=>
  simp only[JJ]at h;split at h
  ·rename_i jh _ _ aR;have hk:=(kg.get bn.tys aR).kd;simp only[nS]at hk;split at h
   ·rename_i k FV ak;split at h
    ·rename_i f km u;split at h
     ·cases h
     ·rename_i r aC;cases Y:Nat.beq jh sz with
      |false=>rw[Y]at h;cases h
      |true=>
       rw[Y]at h;cases h
       simp only[Prod.mk.injEq,List.cons.injEq,W.bf.injEq,W.int.injEq,and_true,true_and]at he;obtain⟨rfl,rfl⟩:=he;have:=Nat.eq_of_beq_eq_true Y;subst this;simp only[gh];rw[←v2 aC,←iy];exact ayE _ ar (axo u) (axo ak) hk.1 cM ⟨dY,fJ⟩
    ·rename_i d u;split at h
     ·rename_i aue qT axm avQ avf aa;cases Y:(Nat.beq jh sz&&Nat.beq qT sz)with
      |false=>rw[Y]at h;cases h
      |true=>
       rw[Y]at h;cases h
       rw[Bool.and_eq_true]at Y;simp only[Prod.mk.injEq,List.cons.injEq,W.bf.injEq,W.int.injEq,and_true,true_and]at he;obtain⟨rfl,rfl⟩:=he;have:=Nat.eq_of_beq_eq_true Y.1;subst this;have:=Nat.eq_of_beq_eq_true Y.2;subst this;exact ay9 _ id ar (axo u) (axo ak) (by rw[Bs];exact aa) hk.1 ⟨dY,fJ⟩
     ·rename_i km aa;split at h
      ·cases h
      ·rename_i r aC;cases Y:Nat.beq jh sz with
       |false=>rw[Y]at h;cases h
       |true=>
        rw[Y]at h;cases h
        simp only[Prod.mk.injEq,List.cons.injEq,W.bf.injEq,W.int.injEq,and_true,true_and]at he;obtain⟨rfl,rfl⟩:=he;have:=Nat.eq_of_beq_eq_true Y;subst this;simp only[gh];rw[←v2 aC,←iy];exact Yields.win aa (ayE _ ar (S2 (axo u)) (ac0 (axo ak)) hk.1 cM ⟨dY,fJ⟩)
     ·cases h
    ·cases h
   ·cases h
  ·cases h
 all_goals (simp only[JJ]at h;cases h)
def aht(bn:j7 P b6){d sz off:Nat}{xs:List (List W)}{i:Int}{row:List W}(cv:x5 sz xs i row){s:c9}{aZ:cW}(h:JY b6 env σ d sz off row o.op=some (s,aZ))(he:aZ=([.bf false xs,.ptr d (i.toNat*sz+off)],[])):gh ⟨P,N,ids⟩ o env σ s:=by
 obtain⟨cM,dY,fJ,iy⟩:=cv;cases ar:o.op<;>rw[ar]at h
 case load T x=>
  simp only[JY]at h;split at h
  ·cases h
  ·rename_i ze aR;have hk:=(kg.get bn.tys aR).ty;split at h
   ·rename_i fT p u;split at h
    ·rename_i bl jh km k dO aa;generalize Y:(Nat.beq fT d&&_&&_&&_)=fc at h;cases fc with
     |false=>cases h
     |true=>
      simp only[cond_true]at h;simp only[Bool.and_eq_true]at Y;obtain⟨⟨⟨dI,ek⟩,hR⟩,j8⟩:=Y;split at h
      ·cases h
      ·rename_i a aI;cases h;simp only[Prod.mk.injEq,List.cons.injEq,W.bf.injEq,W.ptr.injEq,and_true,true_and]at he;obtain⟨rfl,rfl,rfl⟩:=he;have:=Nat.eq_of_beq_eq_true ek;subst this;exact azf (i:=i) _ id ar (axo u) (by rw[Bs];exact aa) rfl ⟨dY,fJ⟩ hk hR j8 (by rw[id_eq,iy];exact aI)
    ·cases h
   ·cases h
 all_goals (simp only[JY]at h;cases h)
def ahu(bn:j7 P b6){d sz off k:Nat}{xs zs:List (List W)}{i:Int}{ca:List W}(cv:HT sz xs i off ca zs)(rD:(k:Int)≤i){s:c9}{aZ:cW}(h:KL b6 env σ d sz off k zs o.op=some (s,aZ))(he:aZ=([.bf false xs,.ptr d (i.toNat*sz+off),.agg ca],[])):gh ⟨P,N,ids⟩ o env σ s:=by
 obtain⟨⟨cM,dY,fJ,_⟩,iy⟩:=cv;cases ar:o.op<;>rw[ar]at h
 case store T x y=>
  simp only[KL]at h;split at h
  ·cases h
  ·rename_i ze aR;have hk:=(kg.get bn.tys aR).ty;split at h
   ·rename_i fT p u;split at h
    ·cases h
    ·rename_i a ak;split at h
     ·cases h
     ·rename_i amn yt;split at h
      ·rename_i bl jh km gK dO aa;generalize Y:(Nat.beq fT d&&_&&_&&_&&_&&_&&_)=fc at h;cases fc with
       |false=>cases h
       |true=>
        simp only[cond_true]at h;simp only[Bool.and_eq_true]at Y;obtain⟨⟨⟨⟨⟨⟨dI,ek⟩,hR⟩,j8⟩,uo⟩,OM⟩,ami⟩:=Y;cases h;simp only[Prod.mk.injEq,List.cons.injEq,W.bf.injEq,W.ptr.injEq,W.agg.injEq,and_true,true_and]at he;obtain⟨rfl,⟨rfl,rfl⟩,rfl⟩:=he;have:=Nat.eq_of_beq_eq_true ek;subst this;have:=Nat.eq_of_beq_eq_true hR;subst this;have hl:=azO (G:=⟨P,N,ids⟩) (i:=i) (ev:=λx=>u3 (env.ev x)) km id (iT (el km i) off amn) ar (show u3 (env.ev x)=_ by rw[axo u];rfl) (show u3 (env.ev y)=_ by rw[axo ak]) (by rw[Bs];exact aa) rfl ⟨dY,fJ⟩ rD hk j8 yt uo OM ami rfl;rw[Bs,←iy]at hl;exact⟨hl.off,rfl⟩
      ·cases h
   ·cases h
 all_goals (simp only[KL]at h;cases h)
def ahv{xH:Nat}{f:FuncId}{σs:ag}{dH:List W}{r:W}(cv:dn P f σs dH r)(ah:cS P f){s:c9}{aZ:cW}(h:KC env xH σ σs r o.op=some (s,aZ))(he:aZ=(.fn f []::dH,σs)):gh ⟨P,N,ids⟩ o env σ s:=by
 cases ar:o.op<;>rw[ar]at h
 case call c=>
  simp only[KC]at h;split at h
  ·cases h
  ·rename_i n0 dU aI;obtain⟨hH,args,k,aT,ps,rfl,bc,aK,rfl⟩:=Bd aI;split at h
   ·cases h
   ·rename_i nW j1;split at h
    ·cases h
    ·rename_i zA Z;split at h
     ·cases h
     ·rename_i R8 EI;generalize Y:(r.closed&&_)=fc at h;cases fc with
      |false=>cases h
      |true=>
       rw[Bool.and_eq_true]at Y;cases h;simp only[Prod.mk.injEq,List.cons.injEq,W.fn.injEq,and_true]at he;obtain⟨⟨rfl,rfl⟩,rfl⟩:=he;exact bM.call (G:=⟨P,N,ids⟩) (σs:=nW) (ey:=R8) ar bc ah.h cv aK (Lg Z) (axG j1).1 (axG EI).1 Y.1 Y.2
 all_goals (simp only[KC]at h;cases h)
def ag0{f:FuncId}{vu dH:List W}{r:W}(cv:dn P f [] (dH++vu) r)(ah:cS P f){s:c9}{aZ:cW}(h:Ky env σ r o.op=some (s,aZ))(he:aZ=(.fn f vu::dH,[])):gh ⟨P,N,ids⟩ o env σ s:=by
 cases ar:o.op<;>rw[ar]at h
 case call c=>
  simp only[Ky]at h;split at h
  ·cases h
  ·rename_i n0 dU px aI;obtain⟨hH,args,k,rfl,bc,aK⟩:=ad3 aI;split at h
   ·cases h
   ·rename_i nW j1;split at h
    ·cases h
    ·rename_i zA Z;cases Y:r.closed with
     |false=>rw[Y]at h;cases h
     |true=>
      rw[Y]at h;cases h;simp only[Prod.mk.injEq,List.cons.injEq,W.fn.injEq,and_true]at he;obtain⟨⟨rfl,rfl⟩,rfl⟩:=he;exact azg (G:=⟨P,N,ids⟩) (σs:=nW) ar bc ah.h (axG j1).1.mem (by rw[axW aK];exact Lg Z) cv Y
 all_goals (simp only[Ky]at h;cases h)
def ag1{ds:ei}{f:FuncId}{dH:List W}{r:W}(cv:dn P f [] dH r)(ah:cS P f){s:c9}{aZ:cW}(h:JS env σ ds r o.op=some (s,aZ))(he:aZ=(.fn f []::dH,[])):gh ⟨P,N,ids⟩ o env σ s:=by
 cases ar:o.op<;>rw[ar]at h
 case call c=>
  simp only[JS]at h;split at h
  ·cases h
  ·rename_i n0 dU aI;obtain⟨hH,args,k,aT,ps,rfl,bc,aK,rfl⟩:=Bd aI;split at h
   ·cases h
   ·rename_i nW j1;split at h
    ·cases h
    ·rename_i zA Z;cases Y:r.jG with
     |false=>rw[Y]at h;cases h
     |true=>
      rw[Y]at h;cases h;simp only[Prod.mk.injEq,List.cons.injEq,W.fn.injEq,and_true]at he;obtain⟨rfl,rfl⟩:=he;exact azu (G:=⟨P,N,ids⟩) (σs:=nW) 9 ar bc ah.h cv aK Z (axG j1).1 Y
 all_goals (simp only[JS]at h;cases h)
def ag2{news:ei}{f:FuncId}{ey σ2:ag}{dH:List W}{r:W}(cv:gZ P f ey dH (λa aL=>a=r∧aL=σ2))(ah:cS P f){s:c9}{aZ:cW}(h:Jd ids env σ ey news r σ2 o.op=some (s,aZ))(he:aZ=(.fn f []::dH,ey)):gh ⟨P,N,ids⟩ o env σ s:=by
 cases ar:o.op<;>rw[ar]at h
 case call c=>
  simp only[Jd]at h;split at h
  ·cases h
  ·rename_i n0 dU aI;obtain⟨hH,args,k,aT,ps,rfl,bc,aK,rfl⟩:=Bd aI;split at h
   ·cases h
   ·rename_i zA Z;split at h
    ·cases h
    ·rename_i Ws j1;generalize Y:(news.all _&&_&&_&&_)=fc at h;cases fc with
     |false=>cases h
     |true=>
      simp only[Bool.and_eq_true,Bool.not_eq_true']at Y;obtain⟨⟨⟨dI,ek⟩,hR⟩,j8⟩:=Y;cases h;simp only[Prod.mk.injEq,List.cons.injEq,W.fn.injEq,and_true]at he;obtain⟨⟨rfl,rfl⟩,rfl⟩:=he;refine⟨?_,by rw[List.all_eq_true]at dI ⊢;exact λd aa=>((Bool.and_eq_true _ _).mp (dI d aa)).1⟩;have hl:=ayG (G:=⟨P,N,ids⟩) (σ:=σ) news ar bc ah.h cv aK (A4 Z) (axG j1).1 dI ek (λr' atL ct=>by obtain⟨rfl,rfl⟩:=ct;exact⟨hR,j8⟩);exact hl.mono λa s ⟨atL,⟨h1,D⟩,aj⟩=>⟨h1,by rw[aj,D]⟩
 all_goals (simp only[Jd]at h;cases h)
def ag3{ds news:ei}{f:FuncId}{σ2:ag}{dH:List W}{r:W}(cv:gZ P f [] dH (λa aL=>a=r∧aL=σ2))(ah:cS P f)(yg:xQ σ2){s:c9}{aZ:cW}(h:Je ids env σ ds news r σ2 o.op=some (s,aZ))(he:aZ=(.fn f []::dH,[])):gh ⟨P,N,ids⟩ o env σ s:=by
 cases ar:o.op<;>rw[ar]at h
 case call c=>
  simp only[Je]at h;split at h
  ·cases h
  ·rename_i n0 dU aI;obtain⟨hH,args,k,aT,ps,rfl,bc,aK,rfl⟩:=Bd aI;split at h
   ·cases h
   ·rename_i nW j1;split at h
    ·cases h
    ·rename_i zA Z;generalize Y:(news.all _&&_&&_&&_&&_)=fc at h;cases fc with
     |false=>cases h
     |true=>
      simp only[Bool.and_eq_true,Bool.not_eq_true']at Y;obtain⟨⟨⟨⟨dI,ek⟩,hR⟩,j8⟩,uo⟩:=Y;cases h;simp only[Prod.mk.injEq,List.cons.injEq,W.fn.injEq,and_true]at he;obtain⟨rfl,rfl⟩:=he;exact⟨ayJ (G:=⟨P,N,ids⟩) (σs:=nW) 9 news ar bc ah.h cv aK Z (axG j1).1 dI ek hR j8 uo yg,by rw[List.all_eq_true]at dI ⊢;exact λd aa=>((Bool.and_eq_true _ _).mp (dI d aa)).1⟩
 all_goals (simp only[Je]at h;cases h)
def ag4(bn:j7 P b6){d2 sz bytes:Nat}{xs bD zs:List (List W)}(cv:BQ sz bytes xs bD zs){s:c9}{aZ:cW}(h:I3 b6 ids env σ d2 sz bytes zs o.op=some (s,aZ))(he:aZ=([.bf false xs,.bf false bD],[])):gh ⟨P,N,ids⟩ o env σ s:=by
 obtain⟨De,cM,dY,fJ,iy,nu⟩:=cv;cases ar:o.op<;>rw[ar]at h
 case call c=>
  obtain⟨cl,args,tys⟩:=c;simp only[I3]at h;split at h
  ·split at h
   ·split at h
    ·rename_i jM iA k8;have:args=#[jM,iA]:=Array.toList_inj.1 (by simpa using k8);subst this;split at h
     ·rename_i T ny Av;have:tys=#[T,ny]:=Array.toList_inj.1 (by simpa using Av);subst this;split at h
      ·rename_i E jh Yj axn aR;have hk:=(kg.get bn.tys aR).kd;simp only[nS]at hk;generalize Y:(Nat.beq T ny&&_&&_&&_)=fc at h;cases fc with
       |false=>cases h
       |true=>
        simp only[cond_true]at h;simp only[Bool.and_eq_true,Bool.not_eq_true']at Y;obtain⟨⟨⟨dI,ek⟩,hR⟩,j8⟩:=Y;have:=Nat.eq_of_beq_eq_true dI;subst this;have:=Nat.eq_of_beq_eq_true ek;subst this;have:=Nat.eq_of_beq_eq_true hR;subst this;split at h
        ·cases h
        ·rename_i oo u;split at h
         ·rename_i f RZ Z;have vN:jk σ (env.ev iA) (.bf f RZ):=by rw[axo u];exact sG Z
          split at h
          ·rename_i d nc;split at h
           ·rename_i bl qT km k dO aa;generalize gr:(Nat.beq bl E&&_&&_)=fc at h;cases fc with
            |false=>cases h
            |true=>
             simp only[cond_true]at h;simp only[Bool.and_eq_true]at gr;obtain⟨⟨aN,bw⟩,cg⟩:=gr;have:=Nat.eq_of_beq_eq_true aN;subst this;have:=Nat.eq_of_beq_eq_true bw;subst this;cases h;simp only[Prod.mk.injEq,List.cons.injEq,W.bf.injEq,and_true,true_and]at he;obtain⟨rfl,rfl⟩:=he;refine⟨?_,by simpa using j8⟩;rw[←De];exact fP.append (G:=⟨P,N,ids⟩) ar (axo nc) aa vN hk.2.1 rfl dY fJ iy nu j8 cg
           ·rename_i bl qT km aa;generalize gr:(Nat.beq bl E&&_&&_)=fc at h;cases fc with
            |false=>cases h
            |true=>
             simp only[cond_true]at h;simp only[Bool.and_eq_true]at gr;obtain⟨⟨aN,bw⟩,cg⟩:=gr;have:=Nat.eq_of_beq_eq_true aN;subst this;have:=Nat.eq_of_beq_eq_true bw;subst this;cases h;simp only[Prod.mk.injEq,List.cons.injEq,W.bf.injEq,and_true,true_and]at he;obtain⟨rfl,rfl⟩:=he;refine⟨?_,by simpa using j8⟩;rw[←De];exact azK (G:=⟨P,N,ids⟩) ar (axo nc) aa vN hk.2.1 rfl dY fJ iy nu j8 cg
           ·cases h
          ·rename_i nc;generalize gr:(ag.clean _ _)=fc at h;cases fc with
           |false=>cases h
           |true=>
            cases h;simp only[Prod.mk.injEq,List.cons.injEq,W.bf.injEq,and_true,true_and]at he;obtain⟨rfl,rfl⟩:=he;refine⟨?_,by simpa using j8⟩;rw[←De];exact ayp (G:=⟨P,N,ids⟩) ar (.inl ⟨axo nc,rfl⟩) vN hk.2.1 cM dY fJ iy nu j8 gr
          ·rename_i km nc;generalize gr:(ag.clean _ _&&_)=fc at h;cases fc with
           |false=>cases h
           |true=>
            cases h;rw[Bool.and_eq_true]at gr;simp only[Prod.mk.injEq,List.cons.injEq,W.bf.injEq,and_true,true_and]at he;obtain⟨rfl,rfl⟩:=he;refine⟨?_,by simpa using j8⟩;rw[←De];exact ayp (G:=⟨P,N,ids⟩) ar (.inr ⟨axo nc,(Iff.of_eq Nat.blt_eq).1 gr.2⟩) vN hk.2.1 cM dY fJ iy nu j8 gr.1
          ·cases h
         ·cases h
      ·cases h
     ·cases h
    ·cases h
   ·cases h
  ·cases h
 all_goals (simp only[I3]at h;cases h)
def ag5(bn:j7 P b6){d2 sz:Nat}{xs zs:List (List W)}{a:Int}(cv:s5 sz xs a xs.length zs){s:c9}{aZ:cW}(h:DT b6 ids env σ d2 sz zs o.op=some (s,aZ))(he:aZ=([.bf false xs,.int .i64 a],[])):gh ⟨P,N,ids⟩ o env σ s:=by
 obtain⟨cM,dY,fJ⟩:=cv;cases ar:o.op<;>rw[ar]at h
 case slice T x lo hi pZ=>
  cases hi with
  |some m=>cases pZ<;>simp only[DT]at h<;>cases h
  |none=>
  cases pZ with
  |some m=>simp only[DT]at h;cases h
  |none=>
   simp only[DT]at h;split at h
   ·rename_i jh _ _ aR;have hk:=(kg.get bn.tys aR).kd;simp only[nS]at hk;split at h
    ·rename_i d u;split at h
     ·rename_i bl qT km aa;split at h
      ·cases h
      ·rename_i gl aI;generalize Y:(Nat.beq jh sz&&_&&_&&_)=fc at h;cases fc with
       |false=>cases h
       |true=>
        simp only[cond_true]at h;simp only[Bool.and_eq_true,Bool.not_eq_true']at Y;obtain⟨⟨⟨dI,ek⟩,hR⟩,j8⟩:=Y;have:=Nat.eq_of_beq_eq_true dI;subst this;have:=Nat.eq_of_beq_eq_true ek;subst this;cases h;simp only[Prod.mk.injEq,List.cons.injEq,W.bf.injEq,W.int.injEq,and_true,true_and]at he;obtain⟨rfl,rfl⟩:=he;obtain⟨ay,aG⟩:=MG aI;refine⟨?_,by simpa using hR⟩;have hl:=azP (G:=⟨P,N,ids⟩) (d2:=d2) ar (axo u) aa hk.1 ay (by rw[aG];exact⟨dY.1,dY.2.1⟩) hR j8;rw[aG]at hl;rw[←fJ];simpa using hl
     ·cases h
    ·cases h
   ·cases h
 all_goals (simp only[DT]at h;cases h)
def ag6(bn:j7 P b6){sz:Nat}{xs zs:List (List W)}{a b:Int}(cv:s5 sz xs a b zs){s:c9}{aZ:cW}(h:G2 b6 env σ sz zs o.op=some (s,aZ))(he:aZ=([.bf false xs,.int .i64 a,.int .i64 b],[])):gh ⟨P,N,ids⟩ o env σ s:=by
 obtain⟨cM,dY,fJ⟩:=cv;cases ar:o.op<;>rw[ar]at h
 case slice T x lo hi pZ=>
  cases pZ with
  |some m=>simp only[G2]at h;cases h
  |none=>
   simp only[G2]at h;split at h
   ·rename_i jh _ _ aR;have hk:=(kg.get bn.tys aR).kd;simp only[nS]at hk;split at h
    ·cases h
    ·rename_i oo u;split at h
     ·rename_i f km Z;split at h
      ·cases h
      ·rename_i gl aI;split at h
       ·cases h
       ·rename_i aX h5;cases Y:Nat.beq jh sz with
        |false=>rw[Y]at h;cases h
        |true=>
         rw[Y]at h;cases h
         simp only[Prod.mk.injEq,List.cons.injEq,W.bf.injEq,W.int.injEq,and_true,true_and]at he;obtain⟨rfl,rfl,rfl⟩:=he;have:=Nat.eq_of_beq_eq_true Y;subst this;obtain⟨ay,aG⟩:=MG aI;obtain⟨a1,aW⟩:=MH h5
         have hI:=b5.slice (G:=⟨P,N,ids⟩) (σ:=σ) ar (by rw[axo u];exact sG Z) hk.1 cM ay a1 (by rw[aG,aW];exact dY) (D5 oo) (λaL cz=>by
          rw[axo u];have:js [] aL oo=some (.bf f km):=by
           cases oo
           case own d=>simp only[js]at Z ⊢;rw[cz _ (by simp[D5])];exact Z
           case bf b l=>cases b<;>exact Z
           case ep d=>simp only[js]at Z;split at Z<;>first|cases Z|(split at Z<;>cases Z)
           case agg l=>simp only[js]at Z;split at Z<;>cases Z
           case dm l=>simp only[js]at Z;split at Z<;>cases Z
           case fn f l=>simp only[js]at Z;split at Z<;>cases Z
           all_goals exact Z
          exact sG this)
         rw[aG,aW,fJ]at hI;exact hI
     ·cases h
   ·cases h
 all_goals (simp only[G2]at h;cases h)
def ag7{n:Int}(cv:n≠0){s:c9}{aZ:cW}(h:Ks env o.op=some (s,aZ))(he:aZ=([.int .i64 n],[])):gh ⟨P,N,ids⟩ o env σ s:=by
 cases ar:o.op<;>rw[ar]at h
 case binOp op T x y bl=>
  simp only[Ks]at h;split at h
  ·rename_i k m u;split at h
   ·rename_i gK oK ak;cases oB:decide (k=gK)with
    |false=>rw[oB]at h;cases h
    |true=>
     rw[oB]at h;simp only[cond_true]at h;have:=of_decide_eq_true oB;subst this;split at h
     ·cases h;simp only[Prod.mk.injEq,List.cons.injEq,W.int.injEq,and_true,true_and]at he;subst he;exact azx ar (axo u) (axo ak) cv
     ·cases h;simp only[Prod.mk.injEq,List.cons.injEq,W.int.injEq,and_true,true_and]at he;subst he;exact b5.rem ar (axo u) (axo ak) cv
     ·cases h
   ·cases h
  ·cases h
 all_goals (simp only[Ks]at h;cases h)
def ag8{n:Int}(cv:0≤n){s:c9}{aZ:cW}(h:KH env o.op=some (s,aZ))(he:aZ=([.int .i64 n],[])):gh ⟨P,N,ids⟩ o env σ s:=by
 cases ar:o.op<;>rw[ar]at h
 case binOp op T x y bl=>
  simp only[KH]at h;split at h
  ·rename_i k m u;split at h
   ·rename_i gK oK ak;split at h
    ·cases h;simp only[Prod.mk.injEq,List.cons.injEq,W.int.injEq,and_true,true_and]at he;subst he;exact b5.shift (op:=.shl) (.inl rfl) ar (axo u) (axo ak) cv
    ·cases h;simp only[Prod.mk.injEq,List.cons.injEq,W.int.injEq,and_true,true_and]at he;subst he;exact b5.shift (op:=.shr) (.inr rfl) ar (axo u) (axo ak) cv
    ·cases h
   ·cases h
  ·cases h
 all_goals (simp only[KH]at h;cases h)
def afc(bn:j7 P b6){jM:ByteArray}{n:Int}{b:UInt8}(cv:0≤n∧jM[n.toNat]?=some b){s:c9}{aZ:cW}(h:Iv b6 env b o.op=some (s,aZ))(he:aZ=([.str jM,.int .i64 n],[])):gh ⟨P,N,ids⟩ o env σ s:=by
 cases ar:o.op<;>rw[ar]at h
 case index T x y=>
  simp only[Iv]at h;split at h
  ·rename_i aR;have hk:=(kg.get bn.tys aR).kd;simp only[nS]at hk;split at h
   ·rename_i eF u;split at h
    ·rename_i k oK ak;cases h;simp only[Prod.mk.injEq,List.cons.injEq,W.str.injEq,W.int.injEq,and_true,true_and]at he;obtain⟨rfl,rfl⟩:=he;exact ay4 ar (axo u) (axo ak) hk cv.1 cv.2
    ·cases h
   ·cases h
  ·cases h
 all_goals (simp only[Iv]at h;cases h)
def ag9(bn:j7 P b6){E:Nat}{k:IntKind}{bO:List (W×W)}{n:Int}{a:W}{b:Bool}(cv:HQ P E k bO n a b){s:c9}{aZ:cW}(h:JW b6 env σ E k a b o.op=some (s,aZ))(he:aZ=([.int .i64 n],[(0,.map 0 0 bO)])):gh ⟨P,N,ids⟩ o env σ s:=by
 obtain⟨α,l,enc,z,rfl,rfl,rfl,hz⟩:=cv;cases ar:o.op<;>rw[ar]at h
 case lookup T x y ok=>
  simp only[JW]at h;split at h
  ·rename_i K l9 gK aR;have hk:=(kg.get bn.tys aR).kd;simp only[nS]at hk;split at h
   ·rename_i d u;split at h
    ·rename_i bV oK ak;split at h
     ·rename_i iH vp mM aa;generalize Y:(Nat.beq l9 E&&_&&_&&_&&_)=fc at h;cases fc with
      |false=>cases h
      |true=>
       simp only[Bool.and_eq_true]at Y;obtain⟨⟨⟨⟨dI,ek⟩,hR⟩,j8⟩,uo⟩:=Y;have:=Nat.eq_of_beq_eq_true dI;subst this;have:=of_decide_eq_true ek;subst this;have:=of_decide_eq_true hR;subst this;have:=Nat.eq_of_beq_eq_true j8;subst this;have:=Nat.eq_of_beq_eq_true uo;subst this;cases h;simp only[Prod.mk.injEq,List.cons.injEq,W.int.injEq,c4.map.injEq,and_true,true_and]at he;obtain⟨rfl,rfl⟩:=he;exact b5.lookup l enc z ar (axo u) (axo ak) aa hk hz
     ·cases h
    ·cases h
   ·cases h
  ·cases h
 all_goals (simp only[JW]at h;cases h)
def UI(bn:j7 P b6){k:IntKind}{bO mM:List (W×W)}{n:Int}{v:W}(cv:Ee k bO n v mM){T:Nat}{x y z:Operand}(ar:o.op=.mapUpdate T x y z∨o.op=.insert T x y z){s:c9}{aZ:cW}(h:Kb b6 env σ k mM T x y z=some (s,aZ))(he:aZ=([.int .i64 n,v],[(0,.map 0 0 bO)])):gh ⟨P,N,ids⟩ o env σ s:=by
 obtain⟨α,l,enc,q,rfl,rfl,ah,rfl⟩:=cv;simp only[Kb]at h;split at h
 ·rename_i K l9 gK aR;have hk:=(kg.get bn.tys aR).kd;simp only[nS]at hk;split at h
  ·rename_i d u;split at h
   ·rename_i bV oK ak;split at h
    ·rename_i eP hz;split at h
     ·rename_i iH vp mM aa;generalize Y:(decide (gK=k)&&_&&_&&_)=fc at h;cases fc with
      |false=>cases h
      |true=>
       simp only[Bool.and_eq_true]at Y;obtain⟨⟨⟨ek,hR⟩,j8⟩,uo⟩:=Y;have:=of_decide_eq_true ek;subst this;have:=of_decide_eq_true hR;subst this;have:=Nat.eq_of_beq_eq_true j8;subst this;have:=Nat.eq_of_beq_eq_true uo;subst this;cases h;simp only[Prod.mk.injEq,List.cons.injEq,W.int.injEq,c4.map.injEq,and_true,true_and]at he;obtain⟨⟨rfl,rfl⟩,rfl⟩:=he;exact⟨fP.mapUpdate l enc q ar (axo u) (axo ak) (axo hz) ah aa hk,rfl⟩
     ·cases h
    ·cases h
   ·cases h
  ·cases h
 ·cases h
def aie(bn:j7 P b6){k:IntKind}{bO mM:List (W×W)}{n:Int}{v:W}(cv:Ee k bO n v mM){s:c9}{aZ:cW}(h:Qz b6 env σ k mM o.op=some (s,aZ))(he:aZ=([.int .i64 n,v],[(0,.map 0 0 bO)])):gh ⟨P,N,ids⟩ o env σ s:=by
 cases ar:o.op<;>rw[ar]at h
 case mapUpdate T x y z=>exact UI bn cv (.inl ar) h he
 case insert T x y z=>exact UI bn cv (.inr ar) h he
 all_goals (simp only[Qz]at h;cases h)
def aif(bn:j7 P b6){k:IntKind}{bO:List (W×W)}{n:Int}(cv:Si k bO n){s:c9}{aZ:cW}(h:JX b6 env σ k n o.op=some (s,aZ))(he:aZ=([],[(0,.map 0 0 bO)])):gh ⟨P,N,ids⟩ o env σ s:=by
 obtain⟨α,l,enc,rfl,rfl⟩:=cv;cases ar:o.op<;>rw[ar]at h
 case call c=>
  obtain⟨cl,args,tys⟩:=c;simp only[JX]at h;split at h
  ·split at h
   ·split at h
    ·rename_i x k8;have:args=#[x]:=Array.toList_inj.1 (by simpa using k8);subst this;split at h
     ·rename_i T Av;have:tys=#[T]:=Array.toList_inj.1 (by simpa using Av);subst this;split at h
      ·rename_i K l9 gK aR;have hk:=(kg.get bn.tys aR).kd;simp only[nS]at hk;split at h
       ·rename_i d u;split at h
        ·rename_i iH vp mM aa;generalize Y:(decide (gK=k)&&_&&_)=fc at h;cases fc with
         |false=>cases h
         |true=>
          simp only[Bool.and_eq_true]at Y;obtain⟨⟨ek,j8⟩,uo⟩:=Y;have:=of_decide_eq_true ek;subst this;have:=Nat.eq_of_beq_eq_true j8;subst this;have:=Nat.eq_of_beq_eq_true uo;subst this;cases h;simp only[Prod.mk.injEq,List.cons.injEq,c4.map.injEq,and_true,true_and]at he;subst he;exact azo l enc ar rfl (axo u) aa hk.ia
        ·cases h
       ·cases h
      ·cases h
     ·cases h
    ·cases h
   ·cases h
  ·cases h
 all_goals (simp only[JX]at h;cases h)
def aih{neg:Bool}{T:Nat}{a b:W}{r:Bool}(cv:∀(x y:Operand) w,(do eqGuard (bif neg then .neq else .eql) T x y (valOf a) (valOf b);binOp (bif neg then .neq else .eql) T (valOf a) (valOf b):Sem Value).run P w=.ok (.bool r) w)
  {s:c9} {aZ:cW} (h:KP env neg T r o.op=some (s,aZ)) (he:aZ=([a,b],[])):gh ⟨P,N,ids⟩ o env σ s:=by
 cases ar:o.op<;>rw[ar]at h
 case binOp op bl x y ny=>
  simp only[KP]at h;split at h
  ·cases h
  ·rename_i gl u;split at h
   ·cases h
   ·rename_i aX ak;generalize Y:(gl.plain&&_&&_)=fc at h;cases fc with
    |false=>cases h
    |true=>
     simp only[cond_true]at h;simp only[Bool.and_eq_true]at Y;have:=Nat.eq_of_beq_eq_true Y.2;subst this;split at h
     ·cases neg with
      |true=>cases h
      |false=>
       cases h;simp only[Prod.mk.injEq,List.cons.injEq,and_true]at he;obtain⟨rfl,rfl⟩:=he;exact azt ar (axo u) (axo ak) Y.1.1 Y.1.2 (cv x y)
     ·cases neg with
      |false=>cases h
      |true=>
       cases h;simp only[Prod.mk.injEq,List.cons.injEq,and_true]at he;obtain⟨rfl,rfl⟩:=he;exact azv ar (axo u) (axo ak) Y.1.1 Y.1.2 (cv x y)
     ·cases h
 all_goals (simp only[KP]at h;cases h)
def aii{T bl:Nat}{a r:W}(cv:∀(o:Oper) (N:Nat) (ids:ei) (ev:Operand→W) (σ:ag) (x:Operand),o.op=.convert T bl x→ev x=a→Yields ⟨P,N,ids⟩ o ev σ [] [] r){s:c9}{aZ:cW}(h:Km env T bl r o.op=some (s,aZ))(he:aZ=([a],[])):gh ⟨P,N,ids⟩ o env σ s:=by
 cases ar:o.op<;>rw[ar]at h
 case convert S Eh x=>
  simp only[Km]at h;split at h
  ·cases h
  ·rename_i gl u;generalize Y:(Nat.beq S T&&_)=fc at h;cases fc with
   |false=>cases h
   |true=>
    simp only[cond_true]at h;simp only[Bool.and_eq_true]at Y;have h1:=Nat.eq_of_beq_eq_true Y.1;have D:=Nat.eq_of_beq_eq_true Y.2;subst h1;subst D
    cases h;simp only[Prod.mk.injEq,List.cons.injEq,and_true]at he;subst he;exact cv o N ids env.ev σ x ar (axo u)
 all_goals (simp only[Km]at h;cases h)
def aij{op:BinOp}{T:Nat}{a b r:W}(cv:∀(o:Oper) (N:Nat) (ids:ei) (ev:Operand→W) (σ:ag) (x y:Operand) (bl:Nat),o.op=.binOp op T x y bl→ev x=a→ev y=b→Yields ⟨P,N,ids⟩ o ev σ [] [] r){s:c9}{aZ:cW}(h:Kl env op T r o.op=some (s,aZ))(he:aZ=([a,b],[])):gh ⟨P,N,ids⟩ o env σ s:=by
 cases ar:o.op<;>rw[ar]at h
 case binOp QL S x y bl=>
  simp only[Kl]at h;split at h
  ·cases h
  ·rename_i gl u;split at h
   ·cases h
   ·rename_i aX ak;generalize Y:(decide (QL=op)&&_)=fc at h;cases fc with
    |false=>cases h
    |true=>
     simp only[cond_true]at h;simp only[Bool.and_eq_true]at Y;have h1:=of_decide_eq_true Y.1;have D:=Nat.eq_of_beq_eq_true Y.2;subst h1;subst D
     cases h;simp only[Prod.mk.injEq,List.cons.injEq,and_true]at he;obtain⟨rfl,rfl⟩:=he;exact cv o N ids env.ev σ x y bl ar (axo u) (axo ak)
 all_goals (simp only[Kl]at h;cases h)
def ayr{G:c7}{ev:Operand→W}{T E sz:Nat}{x hi pZ:Operand}{f:Bool}{lo:Option Operand}{xs:List (List W)}{aq:Int}(h:o.op=.slice T x lo (some hi) (some pZ))(u:jk σ (ev x) (.bf f xs))(aR:ji G.P T E sz)(eH:∀e∈xs,e.length=sz)(CP:zc ev lo)
  (Qe:zc ev (some hi)) (apI:zc ev (some pZ)) (Ys:uf ev xs.length (some hi)=aq) (em:uf ev xs.length (some pZ)=aq)
  (lX:0≤ni ev lo∧ni ev lo≤aq∧aq≤xs.length) (R:ei) (cz:∀aL:ag,(∀d∈R,aL.get d=σ.get d)→jk aL (ev x) (.bf f xs)) :
  Yields G o ev σ [] R (.bf true ((xs.take aq.toNat).drop (ni ev lo).toNat)):=
 .pure λaL cx I β w bp Pc aA hop=>by
  have h1:=(cz aL Pc).rep aA _ (hop x (by simp[h,Op.operands]));simp only[aD,bk]at h1;obtain⟨a,c,h1,D,aj,_,aV⟩:=h1;generalize aP:ni ev lo=l at lX ⊢;have e1:(Instr.sliceBounds true xs.length c (lo.map bp) (some (bp hi)) (some (bp pZ))).run G.P w=.ok (l.toNat,aq.toNat,aq.toNat) w:=by
   have cF:0≤aq∧aq≤(c:Int):=by omega
   have yz:0≤l∧l≤(aq.toNat:Int):=by omega
   obtain⟨Qn,aqe,kG,l8⟩:=BJ Qe (hop hi (by simp[h,Op.operands]));obtain⟨apO,ZB,m1,m2⟩:=BJ apI (hop pZ (by simp[h,Op.operands]));simp only[uf,kG]at Ys;simp only[uf,m1]at em;subst Ys em;have xF:=run_sliceBound (P:=G.P) (k:=apO) (code:=.slice3Acap) (w:=w) cF;have iG:=run_sliceBound (P:=G.P) (k:=Qn) (n:=ZB) (y:=ZB.toNat) (code:=.slice3B) (w:=w) (by omega);cases lo with
   |none=>
    simp only[ni]at aP;subst aP;simp[Instr.sliceBounds,l8,m2,xF,iG]
   |some y=>
    obtain⟨k,n,ay,aG⟩:=BJ CP (hop y (by simp[h,Op.operands]));simp only[ni,ay]at aP;subst aP;have:=run_sliceBound (P:=G.P) (k:=k) (code:=.slice3C) (w:=w) yz;simp[Instr.sliceBounds,l8,m2,xF,iG,aG,this]
  have gF:(execOp bp o).run G.P w=.ok (.value (.slice (if aq.toNat=l.toNat then a else a.map (·.add (l.toNat*sz))) (aq.toNat-l.toNat) (aq.toNat-l.toNat))) w:=by
   have e2:∀w,(underlying T).run G.P w=.ok (.slice E) w:=λw=>run_underlying aR.ia w;simp only[execOp,h,Instr.sliceAt,Instr.slice,h1,Sem.run_bind,e2,Result.andThen_ok,Option.map_some,e1,aR.size,Sem.run_pure]
  refine⟨_,gF,?_⟩;simp only[aD,bk];have yB:((xs.take aq.toNat).drop l.toNat).length=aq.toNat-l.toNat:=by rw[length_drop,length_take];omega
  refine⟨_,aq.toNat-l.toNat,by rw[yB],by rw[yB];omega,by omega,λ_=>yB.symm,?_⟩;by_cases he:(xs.take aq.toNat).drop l.toNat=[]
  ·exact .inl he
  ·right;have cq:l.toNat<aq.toNat:=by
    rcases Nat.lt_or_ge l.toNat aq.toNat with q|q
    ·exact q
    ·exact absurd (eq_nil_of_length_eq_zero (by rw[yB];omega)) he
   rcases aV with rfl|⟨b,p,rfl,aV⟩
   ·simp at he
   ·refine⟨b,p+l.toNat*sz,?_,Kt _ _ _ (λe ct=>eH e (mem_of_mem_take ct)) (Rj _ _ _ aV)⟩;rw[if_neg (by omega)];simp[lG]
def aik(bn:j7 P b6){sz:Nat}{xs zs:List (List W)}{a b:Int}(cv:s5 sz xs a b zs){s:c9}{aZ:cW}(h:Dt b6 env σ sz zs o.op=some (s,aZ))(he:aZ=([.bf false xs,.int .i64 a,.int .i64 b,.int .i64 b],[])):gh ⟨P,N,ids⟩ o env σ s:=by
 obtain⟨cM,dY,fJ⟩:=cv;cases ar:o.op<;>rw[ar]at h
 case slice T x lo hi pZ=>
  cases pZ with
  |none=>cases hi<;>(simp only[Dt]at h;cases h)
  |some pZ=>cases hi with
   |none=>simp only[Dt]at h;cases h
   |some hi=>
    simp only[Dt]at h;split at h
    ·rename_i jh _ _ aR;have hk:=(kg.get bn.tys aR).kd;simp only[nS]at hk;split at h
     ·cases h
     ·rename_i oo u;split at h
      ·rename_i f km Z;split at h
       ·cases h
       ·rename_i gl aI;split at h
        ·cases h
        ·rename_i aX h5;split at h
         ·cases h
         ·rename_i ek gr;cases Y:Nat.beq jh sz with
          |false=>rw[Y]at h;cases h
          |true=>
           rw[Y]at h;cases h
           simp only[Prod.mk.injEq,List.cons.injEq,W.bf.injEq,W.int.injEq,and_true,true_and]at he;obtain⟨rfl,rfl,rfl,OW⟩:=he;have:=Nat.eq_of_beq_eq_true Y;subst this;obtain⟨ay,aG⟩:=MG aI;obtain⟨a1,aW⟩:=MH h5;obtain⟨bt,b1⟩:=MH gr
           have hI:=ayr (G:=⟨P,N,ids⟩) (σ:=σ) ar (by rw[axo u];exact sG Z) hk.1 cM ay a1 bt aW (b1.trans OW) (by rw[aG];exact dY) (D5 oo) (λaL cz=>by
            rw[axo u];have:js [] aL oo=some (.bf f km):=by
             cases oo
             case own d=>simp only[js]at Z ⊢;rw[cz _ (by simp[D5])];exact Z
             case bf b l=>cases b<;>exact Z
             case ep d=>simp only[js]at Z;split at Z<;>first|cases Z|(split at Z<;>cases Z)
             case agg l=>simp only[js]at Z;split at Z<;>cases Z
             case dm l=>simp only[js]at Z;split at Z<;>cases Z
             case fn f l=>simp only[js]at Z;split at Z<;>cases Z
             all_goals exact Z
            exact sG this)
           rw[aG,fJ]at hI;exact hI
      ·cases h
    ·cases h
 all_goals (simp only[Dt]at h;cases h)
def Z7{P:Program}(op:BinOp)(t:TypeId)(x y:Operand)(a gl:Option Addr)(n oK c wR:Nat)(w:World):(eqGuard op t x y (.slice a n c) (.slice gl oK wR)).run P w=.ok () w:=by
 unfold eqGuard;cases op<;>rfl
def asS{P:Program}(w:World)(t e:TypeId)(a:Option Addr)(n c oK wR:Nat)(h:P.underlying t=some (.slice e)):(binOp .neq t (.slice a n c) (.slice none oK wR)).run P w=.ok (.bool (!a.isNone)) w:=by
 simp only[binOp];simp[Op.equal,Op.maxDepth,Lib.run_equalIn_slice_nil w 9999 t e a n c oK wR h]
def ail(bn:j7 P b6){neg:Bool}{a:W}(cv:Wq a){s:c9}{aZ:cW}(h:KK b6 env neg o.op=some (s,aZ))(he:aZ=([a],[])):gh ⟨P,N,ids⟩ o env σ s:=by
 cases ar:o.op<;>rw[ar]at h
 case binOp op T x y ny=>
  simp only[KK]at h;split at h
  ·cases h
  ·rename_i gl u;split at h
   ·rename_i ak;split at h
    ·rename_i e1 e2 bT E fG gy g1 aR;have cF:P.underlying T=some (.slice E):=(kg.get bn.tys aR).kd.1.ia;have key:∀(gl:W),env.dg x=some gl→gl=a→∀(I:bP) (β:Nat→Value) (bp:Operand→Value),(∀z∈o.op.operands,aD I β (env.ev z) (bp z))→∃p n c,bp x=.slice (some p) n c∧bp y=.slice none 0 0:=by
      intro gl u e I β bp hop;have h1:=hop x (by simp[ar,Op.operands]);rw[axo u,e]at h1;have D:=hop y (by simp[ar,Op.operands]);rw[axo ak]at D;simp only[aD,bk]at D;obtain⟨p,n,c,e⟩:=cv I β _ h1;exact⟨p,n,c,e,D⟩
     split at h
     ·cases neg with
      |true=>cases h
      |false=>
       cases h;simp only[Prod.mk.injEq,List.cons.injEq,and_true]at he;refine .pure λ_ _ I β w bp _ _ hop=>?_;obtain⟨p,n,c,e1,e2⟩:=key _ u he I β bp hop;refine⟨.bool false,?_,by simp[aD,bk]⟩;simp only[execOp,ar,e1,e2,Sem.run_bind,Z7,Result.andThen_ok,Lib.run_eql_slice_nil w T E (some p) n c 0 0 cF];rfl
     ·cases neg with
      |false=>cases h
      |true=>
       cases h;simp only[Prod.mk.injEq,List.cons.injEq,and_true]at he;refine .pure λ_ _ I β w bp _ _ hop=>?_;obtain⟨p,n,c,e1,e2⟩:=key _ u he I β bp hop;refine⟨.bool true,?_,by simp[aD,bk]⟩;simp only[execOp,ar,e1,e2,Sem.run_bind,Z7,Result.andThen_ok,asS w T E (some p) n c 0 0 cF];rfl
     ·cases h
    ·cases h
   ·cases h
 all_goals (simp only[KK]at h;cases h)
def Dq(bn:j7 P b6):∀{hint:Hint P} {s:c9} {aZ:cW},BA b6 ids o env σ hint=some (s,aZ)→aZ=hint.exp→gh ⟨P,N,ids⟩ o env σ s
 |.E3,s,aZ,h,he=>by
  simp only[BA]at h;split at h
  ·rename_i R bZ ak;cases h;exact ahp bn ak
  ·split at h
   ·rename_i eF Z;cases h;exact ahq bn Z
   ·cases h
 |.al d,s,aZ,h,he=>by
  simp only[BA]at h;split at h
  ·rename_i eF Z;cases h;exact ahr bn Z
  ·cases h
 |.to ct a b e,s,aZ,h,he=>by
  simp only[BA]at h;split at h
  ·rename_i R bZ Kh Z;cases h
   simp only[Hint.exp,Prod.mk.injEq,List.cons.injEq]at he;obtain⟨⟨h1,D⟩,aj⟩:=he;have:=Dq bn Z (Prod.ext D aj);simp only[gh]at this ⊢;rw[←e,←h1];exact this
  ·cases h
 |.ix sz xs i row cv,s,aZ,h,he=>ahs bn cv h he
 |.lo d sz xs i off row cv,s,aZ,h,he=>aht bn cv h he
 |.so d sz xs i off ca zs cv k hk,s,aZ,h,he=>ahu bn cv hk h he
 |.rf f vu dH r cv ah,s,aZ,h,he=>ag0 cv ah h he
 |.ro xH f σs dH r cv ah,s,aZ,h,he=>ahv cv ah h he
 |.le ds f dH r cv ah,s,aZ,h,he=>ag1 cv ah h he
 |.oU news f ey dH r σ2 cv ah,s,aZ,h,he=>ag2 cv ah h he
 |.dl ds news f dH r σ2 cv ah yg,s,aZ,h,he=>ag3 cv ah yg h he
 |.gs Cm ex f cv,s,aZ,h,he=>cv o N ids env σ s aZ h he
 |.ap d2 sz bytes xs bD zs cv,s,aZ,h,he=>ag4 bn cv h he
 |.sl sz xs a b zs cv,s,aZ,h,he=>ag6 bn cv h he
 |.ws d2 sz xs a zs cv,s,aZ,h,he=>ag5 bn cv h he
 |.qr n cv,s,aZ,h,he=>ag7 cv h he
 |.sh n cv,s,aZ,h,he=>ag8 cv h he
 |.is jM n b cv,s,aZ,h,he=>afc bn cv h he
 |.lk E k bO n a b cv,s,aZ,h,he=>ag9 bn cv h he
 |.u5 k bO n v mM cv,s,aZ,h,he=>aie bn cv h he
 |.lm k bO n cv,s,aZ,h,he=>aif bn cv h he
 |.KO neg T a b r cv,s,aZ,h,he=>aih cv h he
 |.Ra neg a cv,s,aZ,h,he=>ail bn cv h he
 |.s3 sz xs a b zs cv,s,aZ,h,he=>aik bn cv h he
 |.pu T bl a r cv,s,aZ,h,he=>aii cv h he
 |.pb op T a b r cv,s,aZ,h,he=>aij cv h he
end
end
section
inductive mS where
 |dO (ds:ei)
 |ad (t d T sz:Nat)
 |ac (d0 d T sz i:Nat)
 |ja (a b:Nat)
 |sc (d0:Nat) (mQ:ei)
 |rn (a b:Nat)
 |wi (d:Nat)
def yS(ids:ei)(env:an)(σ:ag):mS→Option (an×ag)
 |.dO ds=>some (env,σ.freeze ds)
 |.ad t d T sz=>match env.find t with
  |some .dh=>bif (σ.get d).isNone&&!ids.contains d&&env.clean (Nat.beq d)&&σ.clean (Nat.beq d)then some ((t,.own d)::env,(d,.slice T sz [] 0 false)::σ)else none
  |_=>none
 |.ac d0 d T sz i=>match σ.get d0 with
  |some (.cells bb cs)=>(match cs.drop i with
   |.dh::post=>bif !Nat.beq d0 d&&!ids.contains d&&env.clean (Nat.beq d)&&σ.clean (Nat.beq d)then some (env,(d,.slice T sz [] 0 false)::σ.set d0 (.cells bb (cs.take i++.own d::post)))else none
   |_=>none)
  |_=>none
 |.ja a b=>bif D0 (swp a b) (swp a b) ids env σ then some (env.dG (swp a b),σ.dG (swp a b))else none
 |.rn a b=>bif D0 (λd=>bif Nat.beq d a then b else d) (λd=>bif Nat.beq d b then a else d) ids env σ then some (env.dG (λd=>bif Nat.beq d a then b else d),σ.dG (λd=>bif Nat.beq d a then b else d))else none
 |.sc d0 mQ=>match σ.get d0 with
  |some (.cells bb cs)=>(match tQ mQ σ cs with|none=>none|some oR=>some (env,σ.set d0 (.cells bb oR)))
  |_=>none
 |.wi d=>match σ.get d with
  |some (.slice T sz xs _ _)=>some (env,ag.set d (.win T sz xs) (σ.freeze [d]))
  |_=>none
def xV(ids:ei):List mS→an→ag→Option (an×ag)
 |[],env,σ=>some (env,σ)
 |m::r,env,σ=>match yS ids env σ m with
  |none=>none
  |some (e,s)=>xV ids r e s
variable {G:c7}
def aim{env eB:an}{σ σ2:ag}{m:mS}(h:yS G.ids env σ m=some (eB,σ2)):dr G env σ eB σ2:=by
 cases m with
 |dO ds=>cases h;exact dr.freeze G env σ ds
 |ad t d T sz=>
  simp only[yS]at h;split at h
  ·rename_i be;generalize Y:((σ.get d).isNone&&_&&_&&_)=fc at h;cases fc with
   |false=>cases h
   |true=>
    cases h;simp only[Bool.and_eq_true,Bool.not_eq_true',Option.isNone_iff_eq_none]at Y;exact azA t d T sz (axL be) Y.1.1.1 Y.1.1.2 Y.1.2 Y.2
  ·cases h
 |ac d0 d T sz i=>
  simp only[yS]at h;split at h
  ·rename_i bb cs bA;split at h
   ·rename_i post aK;generalize Y:(!Nat.beq d0 d&&_&&_&&_)=fc at h;cases fc with
    |false=>cases h
    |true=>
     cases h;simp only[Bool.and_eq_true,Bool.not_eq_true']at Y;exact azz d0 d T sz bb (cs.take i) post (by rw[bA,←aK,take_append_drop]) Y.1.1.1 Y.1.1.2 Y.1.2 Y.2
   ·cases h
  ·cases h
 |ja a b=>
  simp only[yS]at h;cases Y:D0 (swp a b) (swp a b) G.ids env σ with
  |false=>rw[Y]at h;cases h
  |true=>rw[Y]at h;cases h;exact dr.dG _ _ Y
 |rn a b=>
  simp only[yS]at h;generalize Y:D0 _ _ _ _ _=fc at h;cases fc with
  |false=>cases h
  |true=>cases h;exact dr.dG _ _ Y
 |wi d=>
  simp only[yS]at h;split at h
  ·rename_i T sz xs k dO aa;cases h;exact(dr.freeze G env σ [d]).trans (dr.win (by rw[axE,aa];simp only[Option.map_some,List.mem_singleton,if_true,c4.vA]) rfl)
  ·cases h
 |sc d0 mQ=>
  simp only[yS]at h;split at h
  ·rename_i bb cs bA;split at h
   ·cases h
   ·rename_i oR Z;cases h;refine λcx I β a w aA bU=>⟨I,β,?_,bU⟩;have j4:=A4 Z;refine{aA with dK:=λd o aa=>?_,eN:=λd fT aa eC di b=>?_}
    ·rw[axu]at aa;split at aa
     ·rename_i m6;subst m6;rw[bA]at aa;simp only[Option.map_some,Option.some.injEq]at aa;subst aa;have:=aA.dK d _ bA;simp only[br]at this ⊢;rcases this with h1|⟨b,arr,h1,D,aj,aV⟩
      ·exact .inl h1
      ·exact .inr ⟨b,arr,h1,D,j4.rep aA _ aj,aV⟩
     ·exact aA.dK d o aa
    ·have key:∀x,((σ.set d0 (.cells bb oR)).get x).isSome→(σ.get x).isSome:=λx u=>by
      rw[axu]at u;split at u
      ·rename_i he;subst he;rw[bA];rfl
      ·exact u
     exact aA.eN d fT (key d aa) (key fT eC) di b
  ·cases h
def Bl{G:c7}:∀{i4:List mS} {env eB:an} {σ σ2:ag},xV G.ids i4 env σ=some (eB,σ2)→dr G env σ eB σ2
 |[],env,_,σ,_,h=>by cases h;exact dr.refl G env σ
 |m::r,env,eB,σ,σ2,h=>by
  simp only[xV]at h;split at h
  ·cases h
  ·rename_i e s hm;exact(aim hm).trans (Bl h)
def BB(sl:ei)(mQ:ei)(σ:ag)(env:an):ei→Option an
 |[]=>some []
 |k::r=>match env.find k with
  |none=>none
  |some a=>match(bif sl.any (Nat.beq k)then js mQ σ a else some a)with
   |none=>none
   |some b=>match BB sl mQ σ env r with
    |none=>none
    |some l=>some ((k,b)::l)
def Hf{sl:ei}{mQ:ei}{σ:ag}{env:an}:∀{ks:ei} {eB:an},BB sl mQ σ env ks=some eB→Dy σ env eB
 |[],eB,h=>by cases h;trivial
 |k::r,eB,h=>by
  simp only[BB]at h;split at h
  ·cases h
  ·rename_i a aI;split at h
   ·cases h
   ·rename_i b Y;split at h
    ·cases h
    ·rename_i l aP;cases h;refine⟨?_,Hf aP⟩;rw[axL aI];cases Z:sl.any (Nat.beq k)with
     |false=>rw[Z]at Y;cases Y;exact .refl _
     |true=>rw[Z]at Y;exact sG Y
def D6(ids:ei)(i4:List mS)(sl:ei)(ks ds:ei)(env:an)(σ:ag):Option (an×ag):=match xV ids i4 env σ with
 |none=>none
 |some (e,s)=>match BB sl ds s e ks with
  |none=>none
  |some e2=>match s.at ds with
   |none=>none
   |some e8=>some (e2,e8)
def Tc{i4:List mS}{sl:ei}{ks ds:ei}{env eB:an}{σ σ2:ag}(h:D6 G.ids i4 sl ks ds env σ=some (eB,σ2)):dr G env σ eB σ2:=by
 simp only[D6]at h;split at h
 ·cases h
 ·rename_i e s hm;split at h
  ·cases h
  ·rename_i e2 hk;split at h
   ·cases h
   ·rename_i e8 Z;cases h;exact(Bl hm).trans (ax8 (Hf hk) (axG Z).1)
abbrev rQ(e:an):ei:=e.map (·.1)
def dr.go{env eB:an}{σ σ2:ag}(i4:List mS)(sl:ei)(h:D6 G.ids i4 sl (rQ eB) σ2.ids env σ=some (eB,σ2)):dr G env σ eB σ2:=Tc h
def D7(ops:lp)(o:Oper)(env:an):ko:=match o.guard with
 |none=>some true
 |some (j,want)=>match ops[j]? with
  |none=>none
  |some eE=>match eE.dst with
   |none=>none
   |some hA=>match env.find hA with
    |some (.bool true)=>some want
    |some (.bool false)=>some (!want)
    |some .undef=>some false
    |_=>none
variable {o:Oper}{ops:lp}
def Bm{env:an}(h:D7 ops o env=some true):jR ops o env:=by
 unfold D7 at h;split at h
 ·exact jR.n ‹_›
 ·rename_i j want bQ;split at h
  ·cases h
  ·rename_i eE aY;split at h
   ·cases h
   ·rename_i hA aa;split at h
    ·rename_i he;cases h;exact azS bQ aY aa (axL he) rfl
    ·rename_i he;simp only[Option.some.injEq,Bool.not_eq_true']at h;subst h;exact azS bQ aY aa (axL he) rfl
    ·cases h
    ·cases h
def Uz{env:an}(h:D7 ops o env=some false):mP ops o env:=by
 unfold D7 at h;split at h
 ·cases h
 ·rename_i j want bQ;split at h
  ·cases h
  ·rename_i eE aY;split at h
   ·cases h
   ·rename_i hA aa;split at h
    ·rename_i he;cases h;exact azT bQ aY aa (axL he) rfl
    ·rename_i he;simp only[Option.some.injEq,Bool.not_eq_false']at h;subst h;exact azT bQ aY aa (axL he) rfl
    ·rename_i he;exact mP.undef bQ aY aa (axL he)
    ·cases h
def sU{P:Program}(b6:hf)(ids:ei)(ops:lp)(s:ll):List (Nat×Hint P)→List (Nat×ei)→an→ag→Option (an×ag×List cW)
 |[],_,env,σ=>some (env,σ,[])
 |(i,h)::r,log,env,σ=>match ops[i]? with
  |none=>none
  |some o=>match D7 ops o env with
   |none=>none
   |some false=>(match sU b6 ids ops s r (bif o3 s i then(i,[])::log else log) (env.put o.dst .undef) σ with
    |none=>none
    |some (e,eF,jP)=>some (e,eF,([],[])::jP))
   |some true=>match BA b6 ids o env σ h with
    |none=>none
    |some (.y R bZ,aZ)=>bif !o3 s i||Ik σ R then(match sU b6 ids ops s r (bif o3 s i then(i,R)::log else log) (env.put o.dst bZ) σ with
     |none=>none
     |some (e,eF,jP)=>some (e,eF,aZ::jP))else none
    |some (.v d Kh bZ,aZ)=>bif o3 s i&&env.clean [d].contains&&σ.clean [d].contains&&Wk Kh then(match sU b6 ids ops s r ((i,[d])::log) (env.put o.dst bZ) ((d,Kh)::σ)with
     |none=>none
     |some (e,eF,jP)=>some (e,eF,aZ::jP))else none
    |some (.e M news bZ aL,aZ)=>bif uY s i&&(!s.gp||sQ s i M log)&&env.clean news.contains&&news.all (λd=>(σ.get d).isNone)then(match sU b6 ids ops s r log (env.put o.dst bZ) aL with
     |none=>none
     |some (e,eF,jP)=>some (e,eF,aZ::jP))else none
def M5{s:ll}{i:Nat}(h:o3 s i=false):uY s i=true:=by
 unfold o3 at h;unfold uY
 cases aa:s.gp<;>simp_all
def xz{P:Program}{b6:hf}{N:Nat}{ids:ei}{ops:lp}{s:ll}{K:an→ag→Prop}(bn:j7 P b6):∀{g0:List (Nat×Hint P)} {log:List (Nat×ei)} {env ud:an} {σ pn:ag} {jP:List cW},
  sU b6 ids ops s g0 log env σ=some (ud,pn,jP)→jP=g0.map (λp=>p.2.exp)→K ud pn→gG ⟨P,N,ids⟩ ops s log (g0.map (·.1)) env σ K
 |[],log,env,ud,σ,pn,jP,h,_,k=>by cases h;exact C.nil k
 |(i,hi)::r,log,env,ud,σ,pn,jP,h,he,k=>by
  simp only[sU]at h;split at h
  ·cases h
  ·rename_i o ar;split at h
   ·cases h
   ·rename_i aA;split at h
    ·cases h
    ·rename_i e eF EJ aC;cases h;simp only[map_cons,List.cons.injEq]at he ⊢;cases aK:o3 s i with
     |true=>rw[aK]at aC;exact C.skip ar (Uz aA) aK (xz bn aC he.2 k)
     |false=>rw[aK]at aC;exact az0 ar (Uz aA) (M5 aK) (xz bn aC he.2 k)
   ·rename_i aA;split at h
    ·cases h
    ·rename_i R bZ aZ Z;generalize Y:(!o3 s i||_)=fc at h;cases fc with
     |false=>cases h
     |true=>
      simp only[cond_true]at h;split at h
      ·cases h
      ·rename_i e eF EJ aC;cases h;simp only[map_cons,List.cons.injEq]at he ⊢;have hI:=Dq (N:=N) bn Z he.1;cases aK:o3 s i with
       |true=>
        rw[aK]at aC Y;exact C.y ar (Bm aA) aK (by simpa using Y) hI (xz bn aC he.2 k)
       |false=>
        rw[aK]at aC;exact ayO ar (Bm aA) (M5 aK) hI (xz bn aC he.2 k)
    ·rename_i d Kh bZ aZ Z;generalize Y:(o3 s i&&_&&_&&_)=fc at h;cases fc with
     |false=>cases h
     |true=>
      simp only[cond_true]at h;simp only[Bool.and_eq_true]at Y;split at h
      ·cases h
      ·rename_i e eF EJ aC;cases h;simp only[map_cons,List.cons.injEq]at he ⊢;have hI:=Dq (N:=N) bn Z he.1;exact C.v ar (Bm aA) Y.1.1.1 hI.1 Y.1.1.2 Y.1.2 Y.2 hI.2 (xz bn aC he.2 k)
    ·rename_i M news bZ aL aZ Z;generalize Y:(uY s i&&_&&_&&_)=fc at h;cases fc with
     |false=>cases h
     |true=>
      simp only[cond_true]at h;simp only[Bool.and_eq_true]at Y;split at h
      ·cases h
      ·rename_i e eF EJ aC;cases h;simp only[map_cons,List.cons.injEq]at he ⊢;have hI:=Dq (N:=N) bn Z he.1;refine C.e ar (Bm aA) Y.1.1.1 hI.1 Y.1.1.2 Y.1.2 ?_ (λa e8 ct=>?_)
       ·rw[List.all_eq_true];intro d aa;rw[Bool.and_eq_true];exact⟨List.all_eq_true.1 hI.2 d aa,List.all_eq_true.1 Y.2 d aa⟩
       ·obtain⟨rfl,rfl⟩:=ct;exact xz bn aC he.2 k
def WM(l:ei)(n:Nat):ei:=bif l.any (Nat.beq n)then l else n::l
def EK(ops:List Oper):rK:=
 (ops.foldl (λ(T:rK) o=>(o.after.toList.foldl (λw e=>bif Region.binds .any e then(T.getD (T.length-1-e.on) []).foldl WM (WM w e.on)else w) [])::T) []).reverse
def Hint.Cm{P:Program}:Hint P→Bool
 |.oU ..|.dl ..|.ap ..=>true
 |.gs e _ _ _=>e
 |_=>false
def ako:Op→Bool
 |.assign _|.store ..|.mapUpdate ..|.insert ..|.entryStore ..|.makeSlice ..=>true
 |_=>false
def hintOf{P:Program}(Z:List (Nat×Hint P))(i:Nat):Hint P:=match Z with
 |[]=>.E3
 |(k,h)::r=>bif Nat.beq k i then h else hintOf r i
def No{P:Program}(Z:List (Nat×Hint P)):Nat→List Oper→ei
 |_,[]=>[]
 |i,o::r=>bif ako o.op||(hintOf Z i).Cm then i::No Z (i+1) r else No Z (i+1) r
def Np(T:rK)(es left:ei):ei→nZ→nZ
 |[],f=>f
 |i::r,f=>bif (T.getD i []).any (λj=>left.any (Nat.beq j))then Np T es left r f
   else bif es.any (Nat.beq i)then Np T es left r (match f with|none=>some i|some x=>some x)else some i
def UJ(T:rK)(es:ei):Nat→ei→ei
 |0,_=>[]
 |n+1,left=>match Np T es left left none with
  |none=>[]
  |some i=>i::UJ T es n (left.filter λj=>!Nat.beq i j)
def lP{P:Program}(ops:lp)(gp:Bool)(Z:List (Nat×Hint P)):ll×ei:=
 bif gp then
  let T:=EK ops.toList
  let es:=No Z 0 ops.toList
  (⟨true,T,es⟩,UJ T es ops.size (List.range ops.size))
 else(⟨false,[],[]⟩,List.range ops.size)
def Ki(N:Nat)(ops:lp)(gp:Bool)(s:ll)(l:ei):Bool:=bif gp then s.gp&&Eo N ops s l else !s.gp&&s.T.isEmpty&&s.es.isEmpty&&zh N ops
def xW{P:Program}(b6:hf)(N:Nat)(ids:ei)(ops:lp)(gp:Bool)(s:ll)(l:ei)(i4:List mS)(Z:List (Nat×Hint P))(ks ds:ei)(env:an)(σ:ag):Option (an×ag×List cW):=
 bif Ki N ops gp s l then
  (match xV ids i4 env σ with
  |none=>none
  |some (e0,jM)=>match sU b6 ids ops s (l.map λi=>(i,hintOf Z i)) [] e0 jM with
   |none=>none
   |some (e1,s1,jP)=>match BB [] ds s1 e1 ks with
    |none=>none
    |some e2=>match s1.at ds with
     |none=>none
     |some e8=>some (e2,e8,jP))
 else none
section code
variable {P:Program}{N:Nat}{ids:ei}{b6:hf}{env:an}{σ:ag}{Q:Exit→an→ag→Prop}{x y c:Code}
def A.R(bn:j7 P b6){id:Nat}{ops:lp}{gp:Bool}(i4:List mS)(Z:List (Nat×Hint P))(eB:an)(σ2:ag)
  (h:xW b6 N ids ops gp (lP ops gp Z).1 (lP ops gp Z).2 i4 Z (rQ eB) σ2.ids env σ=some (eB,σ2,(lP ops gp Z).2.map λi=>(hintOf Z i).exp)) (k:Q .normal eB σ2):aF ⟨P,N,ids⟩ (.region id ops gp) Q env σ:=by
 generalize j4:lP ops gp Z=sl at h;obtain⟨s,l⟩:=sl;simp only[xW]at h;cases j3:Ki N ops gp s l with
 |false=>rw[j3]at h;cases h
 |true=>
  rw[j3]at h;simp only[cond_true]at h;split at h
  ·cases h
  ·rename_i e0 jM hm;split at h
   ·cases h
   ·rename_i e1 s1 jP aC;split at h
    ·cases h
    ·rename_i e2 hk;split at h
     ·cases h
     ·rename_i e8 fV;simp only[Option.some.injEq,Prod.mk.injEq]at h;obtain⟨rfl,rfl,ar⟩:=h;refine axB (Bl hm) ?_
      have ah:∀K:an→ag→Prop,K e1 s1→gG ⟨P,N,ids⟩ ops s [] l e0 jM K:=λK gE=>by
       have:=xz (N:=N) (K:=K) bn aC (by rw[ar,List.map_map];rfl) gE;rw[List.map_map,show((λx:Nat×Hint P=>x.1)∘λi=>(i,hintOf Z i))=λi=>i from rfl,List.map_id']at this;exact this
      refine axU ?_;have WN:∃eB σ2,dr ⟨P,N,ids⟩ e1 s1 eB σ2∧Q .normal eB σ2:=⟨e2,e8,ax8 (Hf hk) (axG fV).1,k⟩;cases gp with
      |false=>
       simp only[Ki,cond_false,Bool.and_eq_true,Bool.not_eq_true',List.isEmpty_iff]at j3;have nc:s=⟨false,[],[]⟩:=by
        obtain⟨a,b,c⟩:=s;simp only at j3;obtain⟨⟨⟨h1,D⟩,aj⟩,aV⟩:=j3;subst h1 D aj;rfl
       have aP:l=List.range ops.size:=by
        have:=congrArg Prod.snd j4;simpa [lP]using this.symm
       subst nc aP;exact A.region j3.2 (ah _ WN)
      |true=>
       simp only[Ki,cond_true,Bool.and_eq_true]at j3;obtain⟨au2,T,es⟩:=s;obtain⟨h1,D⟩:=j3;simp only at h1;subst h1;exact A.any T es l bn.mix D (ah _ WN)
def axr(bn:j7 P b6){id:Nat}{ops:lp}{gp:Bool}(i4:List mS)(Z:List (Nat×Hint P))(eB:an)(σ2:ag)
  (h:xW b6 N ids ops gp (lP ops gp Z).1 (lP ops gp Z).2 i4 Z (rQ eB) σ2.ids env σ=some (eB,σ2,(lP ops gp Z).2.map λi=>(hintOf Z i).exp)) (k:aF ⟨P,N,ids⟩ y Q eB σ2):aF ⟨P,N,ids⟩ (.seq (.region id ops gp) y) Q env σ:=
 A.seq (A.R bn i4 Z eB σ2 h k)
def axD{G:c7}{o:Operand}{p:Bool}(ah:env.dg o=some (.bool p))(aK:p=true)(k:aF G x Q env σ):aF G (.cond o x y) Q env σ:=A.cond (axo ah) (λ_=>k) (λbc=>by rw[aK]at bc;cases bc)
def axA{G:c7}{o:Operand}{p:Bool}(ah:env.dg o=some (.bool p))(aK:p=false)(k:aF G y Q env σ):aF G (.cond o x y) Q env σ:=A.cond (axo ah) (λbU=>by rw[aK]at bU;cases bU) (λ_=>k)
def A.J{G:c7}{α bp:Type}{J:α→Option bp}{r:bp}(hB:α→an)(hG:α→ag)
  (h:aF G x (ve (λhh aL=>∃g,J g=some r∧dr G hh aL (hB g) (hG g)) Q) env σ) (k:∀g,J g=some r→aF G y Q (hB g) (hG g)):aF G (.seq x y) Q env σ:=by
 refine A.seq (h.mono ?_);intro e hh aL cA;cases e with
 |normal=>
  obtain⟨g,bQ,aA⟩:=cA;exact axB aA (k g bQ)
 |_=>exact cA
def axq{G:c7}{α S bp:Type}{l:List α}{B:Int→α→(S→Option bp)→S→Option bp}{K:S→Option bp}{jM:S}{e3:Nat}{r:bp}(hm:cK (l.drop e3) e3 B K jM=some r)(hB:Nat→S→an)(hG:Nat→S→ag)
  (aA:dr G env σ (hB e3 jM) (hG e3 jM))
  (gi:∀(j:Nat) (x:α) (bM:S→Option bp) (s:S),e3≤j→l[j]?=some x→B j x bM s=some r→aF G c (ve (λhh aL=>∃eF,bM eF=some r∧dr G hh aL (hB (j+1) eF) (hG (j+1) eF)) Q) (hB j s) (hG j s))
  (pL:∀(j:Nat) (s:S),e3≤j→l.length≤j→K s=some r→aF G c (ve (λ_ _=>False) Q) (hB j s) (hG j s)):aF G (.loop c) Q env σ:=by
 refine A.loop (α:=Nat×S) (λg=>hB g.1 g.2) (λg=>hG g.1 g.2) (λg=>e3≤g.1∧cK (l.drop g.1) g.1 B K g.2=some r) (λg=>l.length-g.1) (e3,jM) ⟨Nat.le_refl _,hm⟩ aA ?_;rintro⟨j,s⟩ ⟨aY,bc⟩;simp only at aY bc ⊢;by_cases cq:j<l.length
 ·have u:l[j]?=some l[j]:=List.getElem?_eq_getElem cq;rw[drop_eq_getElem_cons cq]at bc;refine(gi j l[j] (cK (l.drop (j+1)) (j+1) B K) s aY u bc).mono ?_;intro e hh aL cA;cases e with
  |normal=>
   obtain⟨eF,h1,D⟩:=cA;exact⟨(j+1,eF),⟨by omega,h1⟩,by show l.length-(j+1)<l.length-j;omega,D⟩
  |_=>exact cA
 ·rw[drop_eq_nil_of_le (by omega)]at bc;refine(pL j s aY (by omega) bc).mono ?_;intro e hh aL cA;cases e with
  |normal=>exact cA.elim
  |_=>exact cA
def axY{G:c7}{S bp:Type}{Da:Nat}{pO hi:Int}{B:Int→(S→Option bp)→S→Option bp}{K:Int→S→Option bp}{jM:S}{r:bp}(hm:l5 Da pO B K jM=some r)(be:Da=(hi-pO).toNat)(hB:Int→S→an)(hG:Int→S→ag)
  (aA:dr G env σ (hB pO jM) (hG pO jM))
  (gi:∀(i:Int) (bM:S→Option bp) (s:S),pO≤i→i<hi→B i bM s=some r→aF G c (ve (λhh aL=>∃eF,bM eF=some r∧dr G hh aL (hB (i+1) eF) (hG (i+1) eF)) Q) (hB i s) (hG i s))
  (pL:∀(i:Int) (s:S),pO≤i→hi≤i→K i s=some r→aF G c (ve (λ_ _=>False) Q) (hB i s) (hG i s)):aF G (.loop c) Q env σ:=by
 refine A.loop (α:=Nat×Int×S) (λg=>hB g.2.1 g.2.2) (λg=>hG g.2.1 g.2.2) (λg=>pO≤g.2.1∧g.1=(hi-g.2.1).toNat∧l5 g.1 g.2.1 B K g.2.2=some r) (λg=>g.1) (Da,pO,jM) ⟨Int.le_refl _,be,hm⟩ aA ?_;rintro⟨n,i,s⟩ ⟨aY,be,bc⟩;simp only at aY be bc ⊢;cases n with
 |zero=>
  refine(pL i s aY (by omega) bc).mono ?_;intro e hh aL cA;cases e with
  |normal=>exact cA.elim
  |_=>exact cA
 |succ n=>
  refine(gi i (l5 n (i+1) B K) s aY (by omega) bc).mono ?_;intro e hh aL cA;cases e with
  |normal=>
   obtain⟨eF,h1,D⟩:=cA;exact⟨(n,i+1,eF),⟨by show pO≤i+1;omega,by show n=(hi-(i+1)).toNat;omega,h1⟩,by show n<n+1;omega,D⟩
  |_=>exact cA
def axJ{G:c7}{S bp:Type}{F:(S→Option bp)→S→Option bp}{Da:Nat}{jM:S}{r:bp}(hm:iter F Da jM=some r)(hB:S→an)(hG:S→ag)(aA:dr G env σ (hB jM) (hG jM))
  (gi:∀(bM:S→Option bp) (s:S),F bM s=some r→aF G c (ve (λhh aL=>∃eF,bM eF=some r∧dr G hh aL (hB eF) (hG eF)) Q) (hB s) (hG s)):aF G (.loop c) Q env σ:=by
 refine A.loop (α:=Nat×S) (λg=>hB g.2) (λg=>hG g.2) (λg=>iter F g.1 g.2=some r) (λg=>g.1) (Da,jM) hm aA ?_;rintro⟨n,s⟩ bc;cases n with
 |zero=>cases bc
 |succ n=>
  refine(gi (iter F n) s bc).mono ?_;intro e hh aL cA;cases e with
  |normal=>
   obtain⟨eF,h1,D⟩:=cA;exact⟨(n,eF),h1,by show n<n+1;omega,D⟩
  |_=>exact cA
def Sq{I:bP}{b:Nat}:∀{e:List W} {o:Nat} {x:W},lu I b e o→x∈e→∃aq,bk I x aq
 |[],_,_,_,h=>by simp at h
 |y::r,o,x,aC,h=>by
  simp only[lu]at aC;rcases mem_cons.1 h with rfl|h
  ·obtain⟨aq,_,D⟩:=aC.1;exact⟨aq,D⟩
  ·exact Sq aC.2 h
def aaI{I:bP}{b:Nat}:∀{xs:List (List W)} {o:Nat} {e:List W},jF I b xs o→e∈xs→∃o,lu I b e o
 |[],_,_,_,h=>by simp at h
 |y::r,o,x,aC,h=>by
  simp only[jF]at aC;rcases mem_cons.1 h with rfl|h
  ·exact⟨o,aC.1⟩
  ·exact aaI aC.2 h
def S5{I:bP}:∀{e:List W} {vs:fK} {x:W},cD I e vs→x∈e→∃aq,bk I x aq
 |[],_,_,_,h=>by simp at h
 |y::r,vs,x,aC,h=>by
  simp only[cD]at aC;obtain⟨aq,b8,_,h1,D⟩:=aC;rcases mem_cons.1 h with rfl|h
  ·exact⟨aq,h1⟩
  ·exact S5 D h
def ayk{I:bP}:∀(n:Nat) (f:Bool) (xs:List (List W)) (v:Value),bk I (.bf f xs) v→L2 n xs
 |0,f,xs,v,h=>by
  simp only[bk]at h;obtain⟨a,c,_,h1,D,_⟩:=h;exact Nat.le_trans h1 D
 |n+1,f,xs,v,h=>by
  simp only[bk]at h;obtain⟨a,c,_,h1,D,_,aj⟩:=h;refine⟨Nat.le_trans h1 D,λe he g bD ak=>?_⟩;rcases aj with rfl|⟨b,o,_,aV⟩
  ·simp at he
  ·obtain⟨hP,b4⟩:=aaI aV he;obtain⟨aq,dz⟩:=Sq b4 ak;exact ayk n g bD aq dz
def ayz{I:bP}{β:Nat→Value}{f:Bool}{xs:List (List W)}{v:Value}(h:aD I β (.bf f xs) v):oO xs:=λn=>ayk n f xs v (by simpa only[aD]using h)
def az6{I:bP}{β:Nat→Value}{f:Bool}{xs:List (List W)}:∀{cs:List W} {vs:fK} {i:Nat},cw I β cs vs→cs[i]?=some (.bf f xs)→oO xs:=λh hi=>by
 obtain⟨v,_,D⟩:=Ln h hi;exact ayz D
def ain{G:c7}{cx:gj}{I:bP}{β:Nat→Value}{σ:ag}{w:World}(aA:cG G cx I β σ w){d:Nat}{T sz k:Nat}{dO:Bool}{xs:List (List W)}(aa:σ.get d=some (.slice T sz xs k dO)){v:Value}(ai:aD I β (.own d) v):oO xs:=by
 obtain⟨a,c,_,ay,aG⟩:=Sw aA aa ai;intro n;cases n with
 |zero=>exact Nat.le_trans ay aG
 |succ n=>
  refine⟨Nat.le_trans ay aG,λe he g bD ak=>?_⟩;simp only[aD]at ai;have:=aA.dK d _ aa;simp only[br]at this;rcases this with h1|⟨_,rfl,_⟩|⟨b,aT,arr,_,_,_,_,_,dz,_⟩
  ·rw[ai.1,h1]at ai;simp[jX]at ai
  ·simp at he
  ·obtain⟨aq,fz⟩:=S5 dz (List.mem_flatten.2 ⟨e,he,ak⟩);exact ayk n g bD aq fz
def axt{G:c7}{f:Bool}{xs:List (List W)}(t:Nat)(h:env.find t=some (.bf f xs))(k:oO xs→aF G c Q env σ):aF G c Q env σ:=by
 refine axS λcx a w aC=>?_;obtain⟨I,β,h1,D,aj,aV⟩:=aC;have ai:=D t;rw[axL h]at ai;exact(k (ayz ai)).use cx a w ⟨I,β,h1,D,aj,aV⟩
def ays{G:c7}{T sz k:Nat}{dO:Bool}{xs:List (List W)}{d:Nat}(t:Nat)(bU:env.find t=some (.own d))(h:σ.get d=some (.slice T sz xs k dO))(k:oO xs→aF G c Q env σ):aF G c Q env σ:=by
 refine axS λcx a w aC=>?_;obtain⟨I,β,h1,D,aj,aV⟩:=aC;have ai:=D t;rw[axL bU]at ai;exact(k (ain h1 h ai)).use cx a w ⟨I,β,h1,D,aj,aV⟩
def axO{G:c7}{T d:Nat}{f:Bool}{cs:List W}{xs:List (List W)}(t i:Nat)(bU:env.find t=some (.ptr d 0))(h:σ.get d=some (.cells T cs))(hi:cs[i]?=some (.bf f xs))(k:oO xs→aF G c Q env σ):aF G c Q env σ:=by
 refine axS λcx a w aC=>?_;obtain⟨I,β,h1,D,aj,aV⟩:=aC;have ai:=D t;rw[axL bU]at ai;simp only[aD]at ai;obtain⟨b,Y,_⟩:=ai;obtain⟨arr,_,_,fQ,_⟩:=cG.box h1 h Y;exact(k (az6 fQ hi)).use cx a w ⟨I,β,h1,D,aj,aV⟩
def axy{G:c7}(eB:an)(σ2:ag)(h:aF G y Q eB σ2→aF G (.seq x y) Q env σ)(k:aF G y Q eB σ2):aF G (.seq x y) Q env σ:=h k
end code
def kF(b:Bool):b=true∨b=false:=by cases b<;>simp
variable {p q:Bool}
def oH(h:p=true):W.bool q=.bool (p&&q):=by rw[h];rfl
def oI(h:p=false):W.bool false=.bool (p&&q):=by rw[h];rfl
def wA(h:p=true):W.bool true=.bool (p||q):=by rw[h];rfl
def tV(h:p=false):W.bool q=.bool (p||q):=by rw[h];rfl
def b0(h:p=q):W.bool p=.bool q:=by rw[h]
section
variable {P:Program}
def ax{a b:W}(e:a=b):Hint P:=.to .E3 a b e
def b7{sz:Nat}{xs:List (List W)}{i:Int}{row:List W}(cv:x5 sz xs i row):Hint P:=.ix sz xs i row cv
def lX(d off:Nat){sz:Nat}{xs:List (List W)}{i:Int}{row:List W}(cv:x5 sz xs i row):Hint P:=.lo d sz xs i off row cv
def tF(d:Nat){sz:Nat}{xs:List (List W)}{i:Int}{off:Nat}{ca:List W}{zs:List (List W)}(cv:HT sz xs i off ca zs){k:Nat}(hk:(k:Int)≤i):Hint P:=.so d sz xs i off ca zs cv k hk
def bI{f:FuncId}{σs:ag}{dH:List W}{r:W}(cv:dn P f σs dH r)(ah:cS P f):Hint P:=.ro 0 f σs dH r cv ah
def WO(xH:Nat){f:FuncId}{σs:ag}{dH:List W}{r:W}(cv:dn P f σs dH r)(ah:cS P f):Hint P:=.ro xH f σs dH r cv ah
def qb{f:FuncId}{vu dH:List W}{r:W}(cv:dn P f [] (dH++vu) r)(ah:cS P f):Hint P:=.rf f vu dH r cv ah
def hle(ds:ei){f:FuncId}{dH:List W}{r:W}(cv:dn P f [] dH r)(ah:cS P f):Hint P:=.le ds f dH r cv ah
def CD{E:Nat}{k:IntKind}{bO:List (W×W)}{n:Int}{a:W}{b:Bool}(cv:HQ P E k bO n a b):Hint P:=.lk E k bO n a b cv
def yD{k:IntKind}{bO:List (W×W)}{n:Int}{v:W}{mM:List (W×W)}(cv:Ee k bO n v mM):Hint P:=.u5 k bO n v mM cv
def sD{sz:Nat}{xs zs:List (List W)}{a b:Int}(cv:s5 sz xs a b zs):Hint P:=.s3 sz xs a b zs cv
def gW(news:ei){f:FuncId}{ey:ag}{dH:List W}{r:W}{σ2:ag}(cv:gZ P f ey dH (λa aL=>a=r∧aL=σ2))(ah:cS P f):Hint P:=.oU news f ey dH r σ2 cv ah
def m4(d2:Nat){sz bytes:Nat}{xs bD zs:List (List W)}(cv:BQ sz bytes xs bD zs):Hint P:=.ap d2 sz bytes xs bD zs cv
def j4{sz:Nat}{xs:List (List W)}{a b:Int}{zs:List (List W)}(cv:s5 sz xs a b zs):Hint P:=.sl sz xs a b zs cv
end
variable {α:Type}{l:List α}
def fC{j:Nat}{x:α}(h:l[j]?=some x):decide ((j:Int)<(l.length:Int))=true:=by
 obtain⟨h1,_⟩:=List.getElem?_eq_some_iff.1 h;exact decide_eq_true (by omega)
def fB{j:Nat}(h:l.length≤j):decide ((j:Int)<(l.length:Int))=false:=decide_eq_false (by omega)
def yl{i h:Int}(ct:h≤i):decide (i<h)=false:=decide_eq_false (by omega)
def WQ(e:jD α){m:List α}{a:Int}(h:nk l a (l.length:Int)=some m):s5 e.sz (aM e l) a ((aM e l).length:Int) (aM e m):=by rw[nB];exact sl e h
def HH(P:Program)(T:Nat):List (Nat×Nat)→Nat→Prop
 |[],_=>True
 |(off,_)::r,n=>hb P T n off∧HH P T r (n+1)
def HH.get{P:Program}{T:Nat}:∀{g0:List (Nat×Nat)} {n f off sz:Nat},HH P T g0 n→g0[f]?=some (off,sz)→hb P T (n+f) off
 |[],_,_,_,_,_,h=>by simp at h
 |(o,s)::r,n,0,off,sz,ct,h=>by simp at h;obtain⟨rfl,rfl⟩:=h;exact ct.1
 |(o,s)::r,n,f+1,off,sz,ct,h=>by
  have:=HH.get (f:=f) (off:=off) (sz:=sz) ct.2 (by simpa using h)
  rwa [Nat.add_right_comm,Nat.add_assoc]at this
def Hp(P:Program)(T:Nat):List (Nat×Nat)→q3→Nat→Prop
 |(off,sz)::r,ej::s,n=>g7 P T n off sz ej∧Hp P T r s (n+1)
 |_,_,_=>True
def Hp.get{P:Program}{T:Nat}:∀{g0:List (Nat×Nat)} {q1:q3} {n f off sz:Nat} {ej:Bool},Hp P T g0 q1 n→g0[f]?=some (off,sz)→q1[f]?=some ej→g7 P T (n+f) off sz ej
 |[],_,_,_,_,_,_,_,h,_=>by simp at h
 |_::_,[],_,_,_,_,_,_,_,h=>by simp at h
 |(o,s)::r,g::q1,n,0,off,sz,ej,ct,h,dw=>by simp at h dw;obtain⟨rfl,rfl⟩:=h;subst dw;exact ct.1
 |(o,s)::r,g::q1,n,f+1,off,sz,ej,ct,h,dw=>by
  have:=Hp.get (f:=f) (off:=off) (sz:=sz) (ej:=ej) ct.2 (by simpa using h) (by simpa using dw)
  rwa [Nat.add_right_comm,Nat.add_assoc]at this
def nD{P:Program}{T:Nat}{zs:fK}{g0:List (Nat×Nat)}{q1:q3}(h1:lN P T zs g0)(D:HH P T g0 0)(aj:Hp P T g0 q1 0):nS P T (.struct zs g0 q1):=
 ⟨h1,λf off sz h=>by have:=D.get h;rwa [Nat.zero_add]at this,λf off sz ej h dw=>by have:=aj.get h dw;rwa [Nat.zero_add]at this⟩
variable {args:List W}{f:FuncId}
def ax9{P:Program}{iZ σ2 σ3:ag}{r r':W}(dO:ei)(h:gZ P f iZ args (λa aL=>a=r∧aL=σ2))(Z:js σ3.ids (σ2.freeze dO) r=some r')(aI:(σ2.freeze dO).at σ3.ids=some σ3):
  gZ P f iZ args (λa aL=>a=r'∧aL=σ3):=λcx w I β vs h1 D=>Calls.mono (h cx w I β vs h1 D) λ_ _ ⟨v,he,xF,aL,bm,β',⟨ay,aG⟩,a1,aW⟩=>by
 subst ay aG;obtain⟨Ec,hle,aA⟩:=aW.K2 dO;refine⟨v,he,r',σ3,Ec,β',⟨rfl,rfl⟩,(sG Z).rep aA v (Dm hle (h8.refl β') _ _ a1),aA.sub λd o aa=>?_⟩;obtain⟨p,cM,dY,fJ⟩:=tL σ3 d o aa;rw[←dY,←fJ];exact(axG aI).1.mem p cM
def sg.at{P:Program}{f:FuncId}{iZ σ2:ag}{args:List W}{r:W}(l:List (Nat×Nat))(h:gZ P f iZ args (λa aL=>a=r∧aL=σ2)):
  gZ P f (iZ.dG (r3 l)) (r0 (r3 l) args) (λa aL=>a=r.dG (r3 l)∧aL=σ2.dG (r3 l)):=
 (h.at l).mono λa s ct=>by
  obtain⟨a0,jM,⟨rfl,rfl⟩,h1,D⟩:=ct;exact⟨h1,D⟩
def xX(b6:hf)(env:an)(σ:ag):ResultVar→Option W
 |.tmp t=>env.find t
 |.cell a T=>match env.find a with
  |some (.ptr d 0)=>(match σ.get d with
   |some (.cells _ cs)=>(match b6.get T with
    |some i=>bif Nat.beq cs.length i.sz&&(i.ej||Nat.blt 0 i.sz)then pY i.ej i.sz cs else none
    |none=>none)
   |_=>none)
  |_=>none
def Iw(b6:hf)(env:an)(σ:ag):List ResultVar→Option (List W)
 |[]=>some []
 |a::r=>match xX b6 env σ a with|none=>none|some x=>match Iw b6 env σ r with|none=>none|some xs=>some (x::xs)
def Oo(b6:hf)(env:an)(σ:ag):List ResultVar→Option W
 |[]=>some (.dm [])
 |[a]=>xX b6 env σ a
 |[a,b]=>match xX b6 env σ a with|none=>none|some x=>match xX b6 env σ b with|none=>none|some y=>some (.dm [x,y])
 |[a,b,c]=>match xX b6 env σ a with|none=>none|some x=>match xX b6 env σ b with|none=>none|some y=>match xX b6 env σ c with|none=>none|some z=>some (.dm [x,y,z])
 |a::b::c::d::r=>match Iw b6 env σ (a::b::c::d::r)with|none=>none|some xs=>some (.dm xs)
variable {a:W}
def yY{P:Program}{N:Nat}{ids:ei}{b6:hf}(bn:j7 P b6){env:an}{σ:ag}{v:ResultVar}(h:xX b6 env σ v=some a):qP ⟨P,N,ids⟩ env σ v a:=by
 cases v with
 |tmp t=>exact L3.tmp h
 |cell p T=>
  simp only[xX]at h;split at h
  ·rename_i d aK;split at h
   ·rename_i bl cs aa;split at h
    ·rename_i i aR;generalize Y:(Nat.beq cs.length i.sz&&_)=fc at h;cases fc with
     |false=>cases h
     |true=>
      simp only[cond_true]at h;rw[Bool.and_eq_true]at Y;exact L3.cell (kg.get bn.tys aR).ty (axL aK) aa Y.1 Y.2 h
    ·cases h
   ·cases h
  ·cases h
def UA{P:Program}{N:Nat}{ids:ei}{b6:hf}(bn:j7 P b6){env:an}{σ:ag}:∀{l:List ResultVar} {xs:List W},Iw b6 env σ l=some xs→BO ⟨P,N,ids⟩ env σ l xs
 |[],xs,h=>by cases h;exact .nil
 |a::r,xs,h=>by
  simp only[Iw]at h;split at h
  ·cases h
  ·rename_i x u;split at h
   ·cases h
   ·rename_i bD ak;cases h;exact .cons (yY bn u) (UA bn ak)
def afd{P:Program}{N:Nat}{ids:ei}{b6:hf}(bn:j7 P b6){env:an}{σ:ag}{l:List ResultVar}(h:Oo b6 env σ l=some a):sS ⟨P,N,ids⟩ env σ l a:=by
 unfold Oo at h;split at h
 ·cases h;exact .zero
 ·exact .one (yY bn h)
 ·split at h
  ·cases h
  ·rename_i x u;split at h
   ·cases h
   ·rename_i y ak;cases h;exact .two (yY bn u) (yY bn ak)
 ·split at h
  ·cases h
  ·rename_i x u;split at h
   ·cases h
   ·rename_i y ak;split at h
    ·cases h
    ·rename_i z hz;cases h;exact .three (yY bn u) (yY bn ak) (yY bn hz)
 ·split at h
  ·cases h
  ·rename_i xs AM;cases h;exact .more (UA bn AM) (by simp)
def Oq(b6:hf)(ids:ei)(i4:List mS)(ds:ei)(l:List ResultVar)(env:an)(σ:ag):Option (W×ag):=match xV ids i4 env σ with
 |none=>none
 |some (e,s)=>match Oo b6 e s l with
  |none=>none
  |some a=>match js ds s a with
   |none=>none
   |some b=>match s.at ds with
    |none=>none
    |some e8=>some (b,e8)
def sO(G:c7)(fn:Func)(ih:W→ag→Prop):Exit→an→ag→Prop:=λe env σ=>∃eB σ2,dr G env σ eB σ2∧Ut G fn ih e eB σ2
variable {fn:Func}
def axv{P:Program}{N:Nat}{ids:ei}{b6:hf}(bn:j7 P b6){env:an}{σ σ2:ag}{R:W}{e:Exit}(i4:List mS)(he:(match e with|.ret|.normal=>true|_=>false)=true)(h:Oq b6 ids i4 σ2.ids fn.results.toList env σ=some (R,σ2)):
  sO ⟨P,N,ids⟩ fn (λa aL=>a=R∧aL=σ2) e env σ:=by
 simp only[Oq]at h;split at h
 ·cases h
 ·rename_i e1 s1 hm;split at h
  ·cases h
  ·rename_i a aI;split at h
   ·cases h
   ·rename_i b Y;split at h
    ·cases h
    ·rename_i e8 Z;cases h;refine⟨e1,s1,Bl hm,?_⟩;have key:∃dO x r aL,sS ⟨P,N,ids⟩ e1 (s1.freeze dO) fn.results.toList x∧jk (s1.freeze dO) x r∧(∀p∈aL,(s1.freeze dO).get p.1=some p.2)∧(r=R∧aL=σ2):=by
      refine⟨[],a,R,σ2,?_,?_,?_,rfl,rfl⟩
      ·rw[axV];exact afd bn aI
      ·rw[axV];exact sG Y
      ·rw[axV];exact(axG Z).1.mem
     cases e<;>first|exact key|cases he
def dE{P:Program}{c:Code}{iZ:ag}{ih:W→ag→Prop}(bc:P.funcs[f]?=some fn)(Y:fn.body=some c)(m3:Nat.ble args.length fn.ntmps=true)
  (h:aF ⟨P,fn.ntmps,iZ.ids⟩ c (sO ⟨P,fn.ntmps,iZ.ids⟩ fn ih) (Dx 0 args) iZ):gZ P f iZ args ih:=
 gZ.enter bc Y (Nat.le_of_ble_eq_true m3) λ_=>axU h
end
end
section
set_option linter.all false
open Go Go.ChangeShapes Go.WideShapes Go.ChangeAt Go.RowKit List
structure k1(P:Program)(T:Nat){α:Type}(enc:α→List W)(n:Nat):Prop where
 cells:P.cellsOf T=n
 read:∀(H:Type) (hT:TypeId×Value→H) (w:World) (gd:Nat) (hY:Nat→Bool) (aa:Bool) (fuel:Nat) (cs:fK) (x:DataW H×List MemPlace),
  DataW.trod hT P w gd hY aa fuel T cs=some x→∃a:α,cD (iO w) (enc a) cs
variable {P:Program}{T:Nat}
def afe{k:IntKind}(h:P.underlying T=some (.int k))(ah:P.cellsOf T=1):k1 P T (λn:Int=>[.int k n]) 1:=by
 refine⟨ah,λH hT w gd hY aa fuel cs x u=>?_⟩;cases fuel with
 |zero=>cases u
 |succ n=>
  unfold DataW.trod at u;rw[h]at u;split at u<;>first|(simp at u;done)|skip
  all_goals (rename_i he;cases he)
  rename_i gK m;split at u
  ·rename_i hk;obtain⟨rfl,_⟩:=hk
   exact⟨m,by simp[cD,bk]⟩
  ·cases u
def ad4(h:P.underlying T=some .bool)(ah:P.cellsOf T=1):k1 P T (λb:Bool=>[.bool b]) 1:=by
 refine⟨ah,λH hT w gd hY aa fuel cs x u=>?_⟩;cases fuel with
 |zero=>cases u
 |succ n=>
  unfold DataW.trod at u;rw[h]at u;split at u<;>first|(simp at u;done)|skip
  all_goals (rename_i he;cases he)
  rename_i b;exact⟨b,by simp[cD,bk]⟩
def J7{α β:Type}{f:α→Option β}:∀{l:List α} {r:List β},l.mapM f=some r→r.length=l.length∧∀(i:Nat) (a:α),l[i]?=some a→∃b:β,f a=some b∧r[i]?=some b
 |[],r,h=>by simp at h;subst h;exact⟨rfl,λi a hi=>by simp at hi⟩
 |x::l,r,h=>by
  rw[mapM_cons]at h;cases u:f x with
  |none=>rw[u]at h;cases h
  |some y=>
   rw[u]at h;cases aP:l.mapM f with
   |none=>rw[aP]at h;cases h
   |some bD=>
    rw[aP]at h;cases h;obtain⟨h1,D⟩:=J7 aP;refine⟨by simp[h1],λi a hi=>?_⟩;cases i with
    |zero=>simp at hi;subst hi;exact⟨y,u,rfl⟩
    |succ i=>simpa using D i a (by simpa using hi)
def Rr{α β:Type}{p:Nat→β→Prop}:∀(n:Nat),(∀i,i<n→∃b,p i b)→∃l:List β,l.length=n∧∀i b,l[i]?=some b→p i b
 |0,_=>⟨[],rfl,λi b h=>by simp at h⟩
 |n+1,h=>by
  obtain⟨l,h1,D⟩:=Rr (α:=α) n (λi hi=>h i (by omega));obtain⟨b,Y⟩:=h n (by omega);refine⟨l++[b],by simp[h1],λi c ah=>?_⟩;by_cases hi:i<n
  ·rw[List.getElem?_append_left (by omega)]at ah;exact D i c ah
  ·have:i=n:=by
    have:=(List.getElem?_eq_some_iff.1 ah).1;simp at this;omega
   subst this;rw[List.getElem?_append_right (by omega)]at ah;simp[h1]at ah;subst ah;exact Y
variable {a:Addr}
def S6{w:World}{gd:Nat}{n:Nat}{cs:fK}(h:w.cells? gd a n=some cs):cs.length=n∧∀i v,cs[i]?=some v→w.cell? (a.add i)=some v:=by
 unfold World.cells? at h;split at h
 ·obtain⟨h1,D⟩:=J7 h;have aP:cs.length=n:=by simpa using h1
  refine⟨aP,λi v ai=>?_⟩;have hi:i<n:=by rw[←aP];exact(List.getElem?_eq_some_iff.1 ai).1
  obtain⟨b,ay,aG⟩:=D i i (by simp[hi]);rw[ai]at aG;cases aG;exact ay
 ·cases h
def Q9{α:Type}{I:bP}{b sz:Nat}{enc:α→List W}:∀(l:List α) (o:Nat),(∀r,(enc r).length=sz)→(∀i a,l[i]?=some a→lu I b (enc a) (o+i*sz))→jF I b (l.map enc) o
 |[],_,_,_=>trivial
 |x::r,o,hz,h=>by
  simp only[map_cons,jF];refine⟨by simpa using h 0 x rfl,?_⟩;rw[hz x];refine Q9 r (o+sz) hz λi a aI=>?_;have:=h (i+1) a (by simpa using aI)
  rwa [Nat.add_mul,Nat.one_mul,Nat.add_comm (i*sz),←Nat.add_assoc]at this
def Td(h:a.spot=none)(i:Nat):a.add i=⟨a.block,a.off+i,none⟩:=by
 obtain⟨b,o,s⟩:=a;simp only at h;subst h;exact lG b o i
variable {E:Nat}{α:Type}
def A5{e:jD α}(h:P.underlying T=some (.slice E))(ah:P.cellsOf T=1)(iV:k1 P E e.enc e.sz)(aK:0<e.sz):k1 P T (λl:List α=>[.bf false (aM e l)]) 1:=by
 refine⟨ah,λH hT w gd hY aa fuel cs x u=>?_⟩;cases fuel with
 |zero=>cases u
 |succ n=>
  unfold DataW.trod at u;rw[h]at u;split at u<;>first|(simp at u;done)|skip
  all_goals (rename_i he;try cases he)
  ·refine⟨[],?_⟩;simp only[cD,bk,aM,map_nil];exact⟨_,_,rfl,⟨none,0,rfl,by simp,by simp[maxLen],by simp,by simp⟩,rfl⟩
  ·rename_i a len aT;split at u
   ·rename_i Y;obtain⟨_,h1,D⟩:=Y;dsimp only at u;generalize hm:(List.range len).mapM (λi=>(w.cells? gd (a.add (i*P.cellsOf E)) (P.cellsOf E)).bind (DataW.trod hT P w gd hY aa n E))=ql at u;cases ql with
    |none=>cases u
    |some OY=>
     obtain⟨ay,aG⟩:=J7 hm;have aP:OY.length=len:=by simpa using ay
     have key:∀i,i<len→∃b:α,∃row:fK,cD (iO w) (e.enc b) row∧∀j v,row[j]?=some v→w.cell? ((a.add (i*P.cellsOf E)).add j)=some v:=λi hi=>by
      obtain⟨z,kG,_⟩:=aG i i (by simp[hi]);cases aC:w.cells? gd (a.add (i*P.cellsOf E)) (P.cellsOf E)with
      |none=>rw[aC]at kG;cases kG
      |some row=>
       rw[aC]at kG;obtain⟨b,Y⟩:=iV.read H hT w gd hY aa n row z kG;exact⟨b,row,Y,(S6 aC).2⟩
     obtain⟨l,iw,hx⟩:=Rr (α:=Unit) len key;refine⟨l,?_⟩;simp only[cD,bk];refine⟨_,_,rfl,⟨some a,aT,by rw[nB,iw],by rw[nB,iw];exact h1,D,by simp,?_⟩,rfl⟩;by_cases bA:len=0
     ·left;have:l=[]:=eq_nil_of_length_eq_zero (by omega);subst this;rfl
     ·right;have oZ:a.spot=none:=by
       obtain⟨b,row,iG,hW⟩:=key 0 (by omega);have oC:row.length=e.sz:=by rw[oT _ _ iG,e.hz]
       cases jm:row with
       |nil=>rw[jm]at oC;simp at oC;omega
       |cons aq b8=>
        have:=hW 0 aq (by rw[jm];rfl);simp only[Nat.zero_mul,Addr.add,if_true]at this;simp only[World.cell?]at this;split at this
        ·split at this
         ·cases this
         ·rename_i Z;cases apb:a.spot<;>simp_all
        ·cases this
      refine⟨a.block,a.off,?_,?_⟩
      ·obtain⟨b,o,s⟩:=a;simp only at oZ;subst oZ;rfl
      ·refine Q9 l a.off e.hz λi c ah=>?_;obtain⟨row,iG,hW⟩:=hx i c ah;refine G3 _ _ row iG λj v ai=>?_;have:=hW j v ai;rw[iV.cells,Td oZ,lG]at this;exact this
   ·cases u
structure Ix(P:Program)(it:List (Nat×Nat))(off:Nat){β:Type}(enc:β→List W)(n:Nat):Prop where
 read:∀(H:Type) (hT:TypeId×Value→H) (w:World) (gd:Nat) (hY:Nat→Bool) (aa:Bool) (fuel:Nat) (cs:fK) (x:List (DataW H×List MemPlace)),
  (it.mapM λf=>DataW.trod hT P w gd hY aa fuel f.1 ((cs.drop f.2).take (P.cellsOf f.1)))=some x→∃b:β,cD (iO w) (enc b) ((cs.drop off).take n)
def Be{off:Nat}:Ix P [] off (λ_:Unit=>[]) 0:=⟨λ_ _ _ _ _ _ _ cs _ _=>⟨(),by simp[cD]⟩⟩
variable {e1:α→List W}{β:Type}{e2:β→List W}
def ow{off n m:Nat}{it:List (Nat×Nat)}(h1:k1 P T e1 n)(D:Ix P it (off+n) e2 m):Ix P ((T,off)::it) off (λp:α×β=>e1 p.1++e2 p.2) (n+m):=by
 refine⟨λH hT w gd hY aa fuel cs x u=>?_⟩;rw[mapM_cons]at u;cases aI:DataW.trod hT P w gd hY aa fuel T ((cs.drop off).take (P.cellsOf T))with
 |none=>simp only[aI]at u;cases u
 |some y=>
  simp only[aI]at u;cases Y:(it.mapM λf=>DataW.trod hT P w gd hY aa fuel f.1 ((cs.drop f.2).take (P.cellsOf f.1)))with
  |none=>rw[Y]at u;cases u
  |some bD=>
   obtain⟨a,ay⟩:=h1.read _ _ _ _ _ _ _ _ _ aI;obtain⟨b,aG⟩:=D.read _ _ _ _ _ _ _ _ _ Y;refine⟨(a,b),?_⟩;rw[h1.cells]at ay;rw[mC];refine⟨_,_,?_,ay,aG⟩;rw[←drop_drop,←take_add]
variable {it:Array Field}
def A1{n:Nat}{l:List (Nat×Nat)}{enc:β→List W}(h:P.underlying T=some (.struct it))(aP:it.toList.map (λf=>(f.type,f.offset))=l)(ah:P.cellsOf T=n)(mG:Ix P l 0 enc n):k1 P T enc n:=by
 refine⟨ah,λH hT w gd hY aa fuel cs x u=>?_⟩;cases fuel with
 |zero=>cases u
 |succ m=>
  unfold DataW.trod at u;rw[h]at u
  have eu:(if cs.length=P.cellsOf T then(it.toList.mapM λf=>DataW.trod hT P w gd hY aa m f.type ((cs.drop f.offset).take (P.cellsOf f.type))).map λxs=>(DataW.agg (xs.map (·.1)),xs.flatMap (·.2))else none)=some x:=by
   split at u
   all_goals first|(rename_i he;cases he;done)|(rename_i he _;cases he;done)|skip
   ·rename_i he;cases he;exact u
   ·exact(‹∀(Ot:Array Field),some (TypeDesc.struct it)=some (TypeDesc.struct Ot)→False› it rfl).elim
  split at eu
  ·rename_i eH;generalize hm:(it.toList.mapM λf=>DataW.trod hT P w gd hY aa m f.type ((cs.drop f.offset).take (P.cellsOf f.type)))=ql at eu;cases ql with
   |none=>cases eu
   |some bD=>
    have tC:(l.mapM λf=>DataW.trod hT P w gd hY aa m f.1 ((cs.drop f.2).take (P.cellsOf f.1)))=some bD:=by
     rw[←aP,List.mapM_map];exact hm
    obtain⟨b,Y⟩:=mG.read _ _ _ _ _ _ _ _ _ tC;refine⟨b,?_⟩;rw[drop_zero,take_of_length_le (by omega)]at Y;exact Y
  ·cases eu
def k1.tJ{n:Nat}(h:k1 P T e1 n)(f:α→β)(bc:∀a,e2 (f a)=e1 a):k1 P T e2 n:=
 ⟨h.cells,λH hT w gd hY aa fuel cs x u=>by obtain⟨a,aI⟩:=h.read H hT w gd hY aa fuel cs x u;exact⟨f a,by rw[bc];exact aI⟩⟩
structure LX(P:Program)(T:Nat){α:Type}(bZ:α→W)(ok:α→Prop):Prop where
 read:∀(H:Type) (hT:TypeId×Value→H) (w:World) (gd:Nat) (v:Value) (d:DataW H) (ps:List MemPlace),Value.okWide P w .any gd T v→DataW.Trod hT P w 0 (λ_=>true) true T v d ps→∃a:α,ok a∧bk (iO w) (bZ a) v
def aff{n:Nat}{enc:α→List W}(h:P.underlying T=some (.struct it))(ar:k1 P T enc n):LX P T (λa=>.agg (enc a)) (λ_=>True):=by
 refine⟨λH hT w gd v d ps ai aa=>?_⟩;obtain⟨fuel,aa⟩:=aa;obtain⟨a,aI⟩:=ar.read _ _ _ _ _ _ _ _ _ aa;unfold Value.okWide at ai;rw[h]at ai;obtain⟨cs,rfl,_⟩:=ai;exact⟨a,trivial,by simp only[bk];exact⟨cs,rfl,aI⟩⟩
def GW(h:P.underlying T=some (.slice E))(w:World)(gd:Nat)(v:Value)(ai:Value.okWide P w .any gd T v):v.cells=#[v]:=by
 simp only[Value.okWide,h,Cell.okWide,Cell.ok]at ai;cases v<;>first|rfl|(simp at ai;done)
def aaE{H:Type}{enc:TypeId×Value→H}{P:Program}(aP:laidOutB P=true){bn W':World}{hY:Nat→Bool}(Y:Below bn.heap.size bn W'):∀{ts:ei} {vs:fK} {ds:List (DataW H)} {ps:List MemPlace},(∀t∈ts,P.readableRec t=true∧t<P.types.size)→
  DataW.TrodAll enc P bn 0 (λ_=>true) true ts vs ds ps→(∀x∈ps,x.block<bn.heap.size)→(∀x∈ps,hY x.block=true)→DataW.TrodAll enc P W' 0 hY true ts vs ds ps
 |[],vs,ds,ps,_,h,_,_=>by cases vs<;>cases ds<;>exact h
 |t::ts,vs,ds,ps,bU,h,cq,Z=>by
  cases vs with
  |nil=>cases ds<;>exact h.elim
  |cons v vs=>
   cases ds with
   |nil=>exact h.elim
   |cons d ds=>
    obtain⟨p,q,ay,aG,rfl⟩:=h;have h1:=bU t (by simp)
    exact⟨p,q,WideElems.Trod_stays aP h1.1 h1.2 ay (λx u=>Y.same (cq x (by simp[u]))) (λx u=>Z x (by simp[u])),
     aaE aP Y (λt AJ=>bU t (by simp[AJ])) aG (λx u=>cq x (by simp[u])) (λx u=>Z x (by simp[u])),rfl⟩
def acG{H:Type}{enc:TypeId×Value→H}{f BT:Nat}{fn:Func}{s:ChangeSpec}(aP:laidOutB P=true)(aC:fn.resultTypes=#[BT])(fq:P.underlying BT=some .bool)(JA:s.vars=[])
    (PM:∀t∈fn.params.toList,P.readableRec t=true∧t<P.types.size) {bn:World} {args:jj} (dZ:∃l:List W,cD (iO bn) l args.toList∧dn P f [] l (.bool true))
    (NO:∀ds:List (DataW H),ds.length=fn.params.size→(s.fn H ds).results=[.lit (.bool true)]∧(s.fn H ds).args=ds∧(s.fn H ds).vars=[])
    (gd:Nat) (ds gs:List (DataW H)) (sj:List MemPlace) (P6:∀(j:Nat) t v,fn.params[j]?=some t→args[j]?=some v→Value.okWide P bn .any gd t v)
    (fD:DataW.Whole enc P fn.params.toList s.vars false bn args.toList ds gs sj) :
    Calls P f args bn λe W'=>∃v,e=.returned v∧s.post enc P fn false true false false bn args v W':=by
  have vD:=fD;obtain⟨p,q,aR,oz,rfl,avu,fH⟩:=fD;rw[JA]at oz;obtain⟨rfl,rfl⟩:=trodVars_none oz;simp only[append_nil]at vD;obtain⟨l,Y,Ou⟩:=dZ
  have gi:cG ⟨P,0,[]⟩ (o2 (iO bn) (λ_=>.nilFunc) [] bn) (iO bn) (λ_=>.nilFunc) [] bn:=
    {good:=G6,iU:=GR,ku:=dc.refl _,jY:=λ_ _ _ _=>rfl,frame:=λ_ _ _=>rfl,size:=Nat.le_refl _,tape:=rfl,os:=rfl,output:=rfl,drawn:=Nat.le_refl _,
     dK:=λd o aa=>by simp[ag.get]at aa,eN:=λd fT aa=>by simp[ag.get]at aa,keep:=λd aa=>by simp at aa}
  have ah:=Ou _ bn (iO bn) (λ_=>.nilFunc) args.toList gi Y.Om;rw[Array.toArray_toList]at ah;refine Calls.mono ah ?_;rintro e W' ⟨v,rfl,r,aL,bm,β',⟨rfl,rfl⟩,jx,gz⟩;have ai:=yT jx;subst ai;have WR:Below bn.heap.size bn W':=⟨gz.os,gz.tape,gz.output,gz.size,λk hk=>gz.frame k hk (by simp[o2,xm,ag.ids])⟩;have eH:ds.length=fn.params.size:=by
    have key:∀(ts:ei) (vs:fK) (ds:List (DataW H)) (ps:List MemPlace),DataW.TrodAll enc P bn 0 (λ_=>true) true ts vs ds ps→ds.length=ts.length:=by
      intro ts;induction ts with
      |nil=>intro vs ds ps h;cases vs<;>cases ds<;>first|rfl|exact h.elim
      |cons t ts bX=>
        intro vs ds ps h;cases vs<;>cases ds<;>first|exact h.elim|skip
        obtain⟨_,_,_,aG,_⟩:=h;simp[bX _ _ _ aG]
    simpa using key _ _ _ _ aR
  obtain⟨e1,e2,bT⟩:=NO ds eH;have cq:∀x∈p,x.block<bn.heap.size:=λx u=>by simpa using vD.lt x u
  have ao8:∀(b:Nat) (hY:Nat→Bool) (aa:Bool),DataW.TrodAll enc P W' b hY aa fn.resultTypes.toList ((Value.bool true).resultList fn.resultTypes.size) [DataW.lit (.bool true)] []:=λb hY aa=>by
    rw[aC];exact trodAll_mk1 (shut_bool fq true)
  have pG:∀hY:Nat→Bool,(∀x∈p,hY x.block=true)→DataW.TrodAll enc P W' 0 hY true fn.params.toList args.toList ds p:=λhY oZ=>aaE aP WR PM aR cq oZ;have j3:=ok_one (P:=P) (W':=W') aC rfl (okWide_bool_mk fq true);have anP:∀hY:Nat→Bool,DataW.TrodVars enc P W' hY s.vars (s.fn H ds).vars []:=λhY=>by rw[JA,bT];rfl
  refine⟨_,rfl,ds,[],p,[],p,[],by simpa using vD,?_,?_,?_,World.keptBut_mono (λx u=>⟨u,.inr (.inl u)⟩) (WR.frame (·∈p)),λh=>by cases h⟩
  · rw[append_nil,e1];exact ao8 _ _ _
  · rw[append_nil,e2];exact pG _ (λx u=>by simpa using cq x u)
  · rw[append_nil];exact anP _
end
section
set_option linter.all false
open Go Go.ChangeShapes Go.WideShapes Go.ChangeAt Go.RowKit List
structure oJ(P:Program)(T:Nat){α:Type}(enc:α→List W)(n:Nat)(bd:α→Prop):Prop where
 cells:P.cellsOf T=n
 read:∀(H:Type) (hT:TypeId×Value→H) (w:World) (gd:Nat) (hY:Nat→Bool) (aa:Bool) (fuel:Nat) (cs:fK) (x:DataW H×List MemPlace),
  DataW.trod hT P w gd hY aa fuel T cs=some x→(∀k∈x.1.weights P T,k≤reachBytes)→∃a:α,bd a∧cD (iO w) (enc a) cs
variable {P:Program}{T:Nat}{α:Type}
def k1.wide{enc:α→List W}{n:Nat}(h:k1 P T enc n):oJ P T enc n (λ_=>True):=
 ⟨h.cells,λH hT w gd hY aa fuel cs x u _=>by obtain⟨a,aI⟩:=h.read H hT w gd hY aa fuel cs x u;exact⟨a,trivial,aI⟩⟩
def aas{H:Type}{P:Program}{e:TypeId}:∀{l:List (DataW H)} {d:DataW H} {k:Nat},d∈l→k∈d.weights P e→k∈DataW.weightsAll P e l
 |c::l,d,k,h,hk=>by
  rw[DataW.weightsAll,List.mem_append];rcases mem_cons.1 h with rfl|h
  ·exact .inl hk
  ·exact .inr (aas h hk)
def GS{E:Nat}{e:jD α}{bd:α→Prop}(h:P.underlying T=some (.slice E))(ah:P.cellsOf T=1)(iV:oJ P E e.enc e.sz bd)(aK:0<e.sz)(ak:0<P.bytesOf E):oJ P T (λl:List α=>[.bf false (aM e l)]) 1 (λl=>l.length≤reachBytes∧∀a∈l,bd a):=by
 refine⟨ah,λH hT w gd hY aa fuel cs x u hk=>?_⟩;cases fuel with
 |zero=>cases u
 |succ n=>
  unfold DataW.trod at u;rw[h]at u;split at u<;>first|(simp at u;done)|skip
  all_goals (rename_i he;try cases he)
  ·refine⟨[],⟨by simp,by simp⟩,?_⟩;simp only[cD,bk,aM,map_nil];exact⟨_,_,rfl,⟨none,0,rfl,by simp,by simp[maxLen],by simp,by simp⟩,rfl⟩
  ·rename_i a len aT;split at u
   ·rename_i Y;obtain⟨_,h1,D⟩:=Y;dsimp only at u;generalize hm:(List.range len).mapM (λi=>(w.cells? gd (a.add (i*P.cellsOf E)) (P.cellsOf E)).bind (DataW.trod hT P w gd hY aa n E))=ql at u;cases ql with
    |none=>cases u
    |some OY=>
     obtain⟨ay,aG⟩:=J7 hm;have aP:OY.length=len:=by simpa using ay
     rw[Option.bind_some,Option.map_eq_some_iff]at u;obtain⟨c2,_,rfl⟩:=u;rw[DataW.weights,h]at hk;simp only at hk;have eH:len≤reachBytes:=by
      have:=hk _ (mem_cons_self ..);rw[length_map,aP]at this;exact Nat.le_trans (Nat.le_trans (Nat.le_add_right _ _) (Nat.le_mul_of_pos_right _ ak)) this
     have key:∀i,i<len→∃b:α,bd b∧∃row:fK,cD (iO w) (e.enc b) row∧∀j v,row[j]?=some v→w.cell? ((a.add (i*P.cellsOf E)).add j)=some v:=λi hi=>by
      obtain⟨z,kG,l8⟩:=aG i i (by simp[hi]);cases aC:w.cells? gd (a.add (i*P.cellsOf E)) (P.cellsOf E)with
      |none=>rw[aC]at kG;cases kG
      |some row=>
       rw[aC]at kG;obtain⟨b,dX,Y⟩:=iV.read H hT w gd hY aa n row z kG λk oB=>hk k (mem_cons_of_mem _ (List.mem_append_left _ (aas (List.mem_map.2 ⟨z,List.mem_of_getElem? l8,rfl⟩) oB)));exact⟨b,dX,row,Y,(S6 aC).2⟩
     obtain⟨l,iw,hx⟩:=Rr (α:=Unit) len key;refine⟨l,⟨by rw[iw];exact eH,λc ah=>?_⟩,?_⟩
     ·obtain⟨i,hi⟩:=List.getElem?_of_mem ah;exact(hx i c hi).1
     simp only[cD,bk];refine⟨_,_,rfl,⟨some a,aT,by rw[nB,iw],by rw[nB,iw];exact h1,D,by simp,?_⟩,rfl⟩;by_cases bA:len=0
     ·left;have:l=[]:=eq_nil_of_length_eq_zero (by omega);subst this;rfl
     ·right;have oZ:a.spot=none:=by
       obtain⟨b,_,row,iG,hW⟩:=key 0 (by omega);have oC:row.length=e.sz:=by rw[oT _ _ iG,e.hz]
       cases jm:row with
       |nil=>rw[jm]at oC;simp at oC;omega
       |cons aq b8=>
        have:=hW 0 aq (by rw[jm];rfl);simp only[Nat.zero_mul,Addr.add,if_true]at this;simp only[World.cell?]at this;split at this
        ·split at this
         ·cases this
         ·rename_i Z;cases apb:a.spot<;>simp_all
        ·cases this
      refine⟨a.block,a.off,?_,?_⟩
      ·obtain⟨b,o,s⟩:=a;simp only at oZ;subst oZ;rfl
      ·refine Q9 l a.off e.hz λi c ah=>?_;obtain⟨_,row,iG,hW⟩:=hx i c ah;refine G3 _ _ row iG λj v ai=>?_;have:=hW j v ai;rw[iV.cells,Td oZ,lG]at this;exact this
   ·cases u
structure Iq(P:Program)(it:List (Nat×Nat))(off:Nat){β:Type}(enc:β→List W)(n:Nat)(bd:β→Prop):Prop where
 read:∀(H:Type) (hT:TypeId×Value→H) (w:World) (gd:Nat) (hY:Nat→Bool) (aa:Bool) (fuel:Nat) (cs:fK) (x:List (DataW H×List MemPlace)),
  (it.mapM λf=>DataW.trod hT P w gd hY aa fuel f.1 ((cs.drop f.2).take (P.cellsOf f.1)))=some x→(∀k∈DataW.weightsEach P (it.map (·.1)) (x.map (·.1)),k≤reachBytes)→∃b:β,bd b∧cD (iO w) (enc b) ((cs.drop off).take n)
def K5{off:Nat}:Iq P [] off (λ_:Unit=>[]) 0 (λ_=>True):=⟨λ_ _ _ _ _ _ _ cs _ _ _=>⟨(),trivial,by simp[cD]⟩⟩
variable {dI:α→Prop}{e1:α→List W}{β:Type}{e2:β→List W}{ek:β→Prop}
def vW{off n m:Nat}{it:List (Nat×Nat)}(h1:oJ P T e1 n dI)(D:Iq P it (off+n) e2 m ek):Iq P ((T,off)::it) off (λp:α×β=>e1 p.1++e2 p.2) (n+m) (λp=>dI p.1∧ek p.2):=by
 refine⟨λH hT w gd hY aa fuel cs x u hk=>?_⟩;rw[mapM_cons]at u;cases aI:DataW.trod hT P w gd hY aa fuel T ((cs.drop off).take (P.cellsOf T))with
 |none=>simp only[aI]at u;cases u
 |some y=>
  simp only[aI]at u;cases Y:(it.mapM λf=>DataW.trod hT P w gd hY aa fuel f.1 ((cs.drop f.2).take (P.cellsOf f.1)))with
  |none=>rw[Y]at u;cases u
  |some bD=>
   rw[Y]at u;have u:y::bD=x:=by simpa using u
   subst u;simp only[map_cons,DataW.weightsEach,List.mem_append]at hk;obtain⟨a,i5,ay⟩:=h1.read _ _ _ _ _ _ _ _ _ aI λk oB=>hk k (.inl oB);obtain⟨b,a1,aG⟩:=D.read _ _ _ _ _ _ _ _ _ Y λk oB=>hk k (.inr oB);refine⟨(a,b),⟨i5,a1⟩,?_⟩;rw[h1.cells]at ay;rw[mC];refine⟨_,_,?_,ay,aG⟩;rw[←drop_drop,←take_add]
def KI{n:Nat}{it:Array Field}{l:List (Nat×Nat)}{enc:β→List W}{bd:β→Prop}(h:P.underlying T=some (.struct it))(aP:it.toList.map (λf=>(f.type,f.offset))=l)(ah:P.cellsOf T=n)(mG:Iq P l 0 enc n bd):oJ P T enc n bd:=by
 refine⟨ah,λH hT w gd hY aa fuel cs x u hk=>?_⟩;cases fuel with
 |zero=>cases u
 |succ m=>
  unfold DataW.trod at u;rw[h]at u
  have eu:(if cs.length=P.cellsOf T then(it.toList.mapM λf=>DataW.trod hT P w gd hY aa m f.type ((cs.drop f.offset).take (P.cellsOf f.type))).map λxs=>(DataW.agg (xs.map (·.1)),xs.flatMap (·.2))else none)=some x:=by
   split at u
   all_goals first|(rename_i he;cases he;done)|(rename_i he _;cases he;done)|skip
   ·rename_i he;cases he;exact u
   ·exact(‹∀(Ot:Array Field),some (TypeDesc.struct it)=some (TypeDesc.struct Ot)→False› it rfl).elim
  split at eu
  ·rename_i eH;generalize hm:(it.toList.mapM λf=>DataW.trod hT P w gd hY aa m f.type ((cs.drop f.offset).take (P.cellsOf f.type)))=ql at eu;cases ql with
   |none=>cases eu
   |some bD=>
    have tC:(l.mapM λf=>DataW.trod hT P w gd hY aa m f.1 ((cs.drop f.2).take (P.cellsOf f.1)))=some bD:=by
     rw[←aP,List.mapM_map];exact hm
    simp only[Option.map_some,Option.some.injEq]at eu;subst eu;rw[DataW.weights,h]at hk;simp only at hk;obtain⟨b,dX,Y⟩:=mG.read _ _ _ _ _ _ _ _ _ tC (by rw[←aP,List.map_map];exact hk);refine⟨b,dX,?_⟩;rw[drop_zero,take_of_length_le (by omega)]at Y;exact Y
  ·cases eu
def oJ.tJ{n:Nat}(h:oJ P T e1 n dI)(f:α→β)(bc:∀a,e2 (f a)=e1 a)(Y:∀a,dI a→ek (f a)):oJ P T e2 n ek:=
 ⟨h.cells,λH hT w gd hY aa fuel cs x u hk=>by obtain⟨a,h1,aI⟩:=h.read H hT w gd hY aa fuel cs x u hk;exact⟨f a,Y a h1,by rw[bc];exact aI⟩⟩
structure Ov(P:Program)(T:Nat){α:Type}(bZ:α→W)(ok:α→Prop):Prop where
 read:∀(H:Type) (hT:TypeId×Value→H) (w:World) (gd:Nat) (v:Value) (d:DataW H) (ps:List MemPlace),Value.okWide P w .any gd T v→DataW.Trod hT P w 0 (λ_=>true) true T v d ps→(∀k∈d.weights P T,k≤reachBytes)→∃a:α,ok a∧bk (iO w) (bZ a) v
variable {bZ:α→W}
def LX.wide{ok:α→Prop}(h:LX P T bZ ok):Ov P T bZ ok:=⟨λH hT w gd v d ps h1 D _=>h.read H hT w gd v d ps h1 D⟩
def Hg{bd:α→Prop}(ar:oJ P T (λa=>[bZ a]) 1 bd)(hk:∀w gd v,Value.okWide P w .any gd T v→v.cells=#[v]):Ov P T bZ bd:=by
 refine⟨λH hT w gd v d ps ai aa cA=>?_⟩;obtain⟨fuel,aa⟩:=aa;obtain⟨a,tv,aI⟩:=ar.read _ _ _ _ _ _ _ _ _ aa cA;rw[hk w gd v ai]at aI;simp only[cD]at aI;obtain⟨aq,b8,h1,D,rfl⟩:=aI;simp at h1;subst h1;exact⟨a,tv,D⟩
structure El(P:Program)(ts:List Nat){β:Type}(dH:β→List W)(ok:β→Prop):Prop where
 read:∀(H:Type) (hT:TypeId×Value→H) (w:World) (gd:Nat) (vs:fK) (ds:List (DataW H)) (ps:List MemPlace),(∀(j:Nat) t v,ts[j]?=some t→vs[j]?=some v→Value.okWide P w .any gd t v)→
  DataW.TrodAll hT P w 0 (λ_=>true) true ts vs ds ps→(∀k∈DataW.weightsEach P ts ds,k≤reachBytes)→∃b:β,ok b∧cD (iO w) (dH b) vs
def acH:El P [] (λ_:Unit=>[]) (λ_=>True):=⟨λ_ _ _ _ vs ds _ _ h _=>by
 cases vs<;>cases ds<;>first|exact⟨(),trivial,rfl⟩|exact h.elim⟩
def Dd{ts:ei}{g6:α→W}{a2:β→List W}{hy:α→Prop}{fS:β→Prop}(h1:Ov P T g6 hy)(D:El P ts a2 fS):El P (T::ts) (λp:α×β=>g6 p.1::a2 p.2) (λp=>hy p.1∧fS p.2):=by
 refine⟨λH hT w gd vs ds ps ai h hk=>?_⟩;cases vs with
 |nil=>cases ds<;>exact h.elim
 |cons v vs=>
  cases ds with
  |nil=>exact h.elim
  |cons d ds=>
   obtain⟨p,q,ay,aG,_⟩:=h;simp only[DataW.weightsEach,List.mem_append]at hk;obtain⟨a,A7,aI⟩:=h1.read H hT w gd v d p (ai 0 T v rfl rfl) ay λk oB=>hk k (.inl oB);obtain⟨b,aZ,Y⟩:=D.read H hT w gd vs ds q (λj t v h dw=>ai (j+1) t v (by simpa using h) (by simpa using dw)) aG λk oB=>hk k (.inr oB);exact⟨(a,b),⟨A7,aZ⟩,by simp only[cD];exact⟨v,vs,rfl,aI,Y⟩⟩
def aal{H:Type}{P:Program}{k:Nat}:∀{ts b8:List TypeId} {ds gs:List (DataW H)},k∈DataW.weightsEach P ts ds→k∈DataW.weightsEach P (ts++b8) (ds++gs)
 |[],_,_,_,h=>by simp[DataW.weightsEach]at h
 |_::_,_,[],_,h=>by simp[DataW.weightsEach]at h
 |t::ts,b8,d::ds,gs,h=>by
  simp only[cons_append,DataW.weightsEach,List.mem_append]at h ⊢;exact h.imp id aal
variable {H:Type}{enc:TypeId×Value→H}{fn:Func}
def acI{f BT:Nat}{s:ChangeSpec}{dH:β→List W}{ok:β→Prop}(aP:laidOutB P=true)(aC:fn.resultTypes=#[BT])(fq:P.underlying BT=some .bool)(JA:s.vars=[])
  (PM:∀t∈fn.params.toList,P.readableRec t=true∧t<P.types.size) (dZ:El P fn.params.toList dH ok) (Ou:∀b,ok b→dn P f [] (dH b) (.bool true))
  (NO:∀ds:List (DataW H),ds.length=fn.params.size→(s.fn H ds).results=[.lit (.bool true)]∧(s.fn H ds).args=ds∧(s.fn H ds).vars=[])
  (bn:World) (gd:Nat) (args:jj) (ds gs:List (DataW H)) (sj:List MemPlace) (b8:List TypeId) (P6:∀(j:Nat) t v,fn.params[j]?=some t→args[j]?=some v→Value.okWide P bn .any gd t v)
  (fD:DataW.Whole enc P fn.params.toList s.vars false bn args.toList ds gs sj) (hk:(DataW.weightsEach P (fn.params.toList++b8) (ds++gs)).all (·≤reachBytes)=true) :
  Calls P f args bn λe W'=>∃v,e=.returned v∧s.post enc P fn false true false false bn args v W':=by
 refine acG aP aC fq JA PM ?_ NO gd ds gs sj P6 fD;obtain⟨p,q,aR,_⟩:=fD
 obtain⟨b,h1,D⟩:=dZ.read H enc bn gd args.toList ds p (λj t v h dw=>P6 j t v (by simpa using h) (by simpa using dw)) aR λk oB=>by
  have:=List.all_eq_true.1 hk k (aal oB);simpa using this
 exact⟨_,D,Ou b h1⟩
def agB{a:Assume}{C:Checked}{os:Os}{f:FuncId}{s:ChangeSpec}{conds:List PathCond}{apart fresh handsOn again:Bool}
  (own:ownKnob C.prog.godebug=none) (Dv:os.Started) (aqc:C.prog.inits.idxOf? f=none) (Pu:C.prog.funcs[f]?=some fn)
  (asQ:∃(w:World) (tape:Tape) (i:Input),w.os=os∧(w.forCall tape i).Shaped C.prog∧i.vars=[]∧Input.okWide C.prog (w.forCall tape i) .any w.heap.size f i∧
   s.pre6 enc C.prog fn conds apart (w.forCall tape i).memory i.args∧a.holds C.prog (lone (Frame.enter C.prog f i.args .normal) [] (w.forCall tape i)))
  (E6:∀(bn:World) (gd:Nat) (args:jj) (ds gs:List (DataW H)) (sj:List MemPlace),
   (∀(j:Nat) t v,fn.params[j]?=some t→args[j]?=some v→Value.okWide C.prog bn .any gd t v)→
   DataW.Whole enc C.prog fn.params.toList s.vars apart bn args.toList ds gs sj→
   (DataW.weightsEach C.prog (fn.params.toList++s.plain.varTypes C.prog) (ds++gs)).all (·≤reachBytes)=true→
   Calls C.prog f args bn λe W'=>∃v,e=.returned v∧s.post enc C.prog fn apart fresh handsOn again bn args v W') :
  ReturnsInHanded a C os f .any (s.pre6 enc C.prog fn conds apart) (s.post enc C.prog fn apart fresh handsOn again):=by
 have h:=returnsInHanded_of_change_and (X:=λ_ _=>True) (conds:=conds) (fresh:=fresh) (handsOn:=handsOn) (again:=again) (λ_ _ _ _ _=>trivial) own Dv aqc Pu (let⟨w,t,i,h1,D,aj,aV,b4,dz⟩:=asQ;⟨w,t,i,h1,D,aj,aV,⟨⟨b4.1,trivial⟩,b4.2⟩,dz⟩) λbn gd args ds gs sj h1 D _ aV _ _=>E6 bn gd args ds gs sj h1 D aV
 have e:(λ(w:World) (args:jj)=>(s.pre enc C.prog fn conds apart w args∧True)∧sizedMet enc C.prog fn (OpenSpec.ofChange s) apart w args)=s.pre6 enc C.prog fn conds apart:=by
  funext w args;simp only[and_true];rfl
 rw[e]at h;exact h
end
section
set_option linter.all false
open Go List
variable {P:Program}{b6:hf}
variable {o:Oper}{σ:ag}
def ayU{G:c7}{ev:Operand→W}{T E sz len d:Nat}{parts:Array (Nat×Operand)}{zs:fK}{xs:List (List W)}(h:o.op=.buildSlice T len parts)(aR:kz G.P T E sz zs)(aP:parts.size=len)(Z:len*sz≤65536∧len≤65536)
  (bc:we sz 0 (parts.toList.map λp=>(p.1,ev p.2))=some xs) (aC:pU (Nat.beq d) xs.flatten=false) (hi:G.ids.contains d=false):Yields G o ev ((d,.cells E xs.flatten)::σ) [d] [d] (.fH (.Ck len) d):=by
 intro aL cx I β w bp cz aA hm hop;have h1:∀p∈parts.toList,aD I β (ev p.2) (bp p.2):=λp aK=>hop p.2 (by simp only[h,Op.operands];simpa using ⟨p.1,by simpa using aK⟩);obtain⟨z,jB,jI⟩:=aR.zero w
 let L:jj:=(Array.range (len*sz)).map ((if len*sz=0 then #[]else z.cells)[·%(if len*sz=0 then #[]else z.cells:jj).size]!)
 have yq:L.size=len*sz:=by simp[L]
 obtain⟨r,b8,iG,hW,qY,r4,y3,xG⟩:=Kw (I:=I) (β:=β) sz (parts.toList.map λp=>(p.1,ev p.2)) (parts.toList.map λp=>(p.1,bp p.2)) 0 L xs
  ⟨by simp,λj p q aY cA=>by
   simp only[List.getElem?_map]at aY cA;cases u:parts.toList[j]? with
   |none=>rw[u]at aY;cases aY
   |some y=>
    rw[u]at aY cA;simp only[Option.map_some,Option.some.injEq]at aY cA;subst aY cA;exact⟨rfl,h1 y (List.mem_of_getElem? u)⟩⟩ bc (by simp[yq,aP])
 have CG:r.toList=b8:=by
  rw[qY];have e0:L.toList.drop ((0+(parts.toList.map λp=>(p.1,ev p.2)).length)*sz)=[]:=drop_of_length_le (by simp[yq,aP]);rw[e0];simp
 have gF:(execOp bp o).run G.P w=.ok (.value (.slice (some ⟨w.heap.size,0,none⟩) len len)) (w.alloc (.cells r E)):=by
  have FA:¬(len*sz>2 ^ 24):=by have:(2:Nat) ^ 24=16777216:=by decide
                               omega
  have pS:Instr.fill (λi=>some (i*sz,sz)) L (parts.map λ(i,x)=>(i,bp x)).toList=some r:=by simpa using iG
  simp only[execOp,h,Instr.buildSlice,Sem.run_bind,run_underlying aR.ia,aR.size,Result.andThen_ok,FA,if_false];by_cases bA:len*sz=0
  ·have uF:L=(Array.range (len*sz)).map ((#[]:jj)[·%(#[]:jj).size]!):=by simp only[L,bA,if_true]
   rw[uF]at pS;simp only[bA,if_true,Sem.run_bind,Sem.run_pure,Result.andThen_ok]at pS ⊢;simp only[pS];simp[newRow]
  ·have uF:L=(Array.range (len*sz)).map (z.cells[·%z.cells.size]!):=by simp only[L,bA,if_false]
   rw[uF]at pS;simp only[bA,if_false,Sem.run_bind,jB,Sem.run_pure,Result.andThen_ok];simp only[pS];simp[newRow]
 rw[gF];have mK:=hm d (by simp);refine⟨I,iL β d (.pointer (some ⟨w.heap.size,0,none⟩)),by simp only[aD,om.rep];exact⟨w.heap.size,by rw[h0];rfl,rfl⟩,?_,dc.refl I,λx u=>iJ β _ (λe=>u (by simp[e]))⟩;refine aA.real (by simpa using hi) mK rfl λaZ c5=>?_;rw[cz d (by simp),axp,if_pos rfl]at c5;injection c5 with c5
 subst c5;simp only[br,h0];refine .inr ⟨w.heap.size,r,rfl,heap_alloc_new w _,?_,λo=>aA.jS (Nat.le_refl _) o,.inl aA.size⟩;rw[CG];exact vU (dc.refl I) (axX mK) _ _ r4
def OO(b6:hf)(d:Nat)(ids:ei)(op:Op)(env:an):Option (c9×cW):=match op with
 |.buildSlice T len parts=>match b6.get T with
  |some ⟨_,_,_,.slice E sz _ _⟩=>bif Nat.beq parts.size len&&(Nat.ble (len*sz) 65536&&Nat.ble len 65536)&&!ids.contains d then(match env.wK parts.toList with
   |none=>none
   |some ps=>match yU sz 0 ps with
    |none=>none
    |some xs=>bif !pU (Nat.beq d) xs.flatten then some (.v d (.cells E xs.flatten) (.fH (.Ck len) d),([],[]))else none)else none
  |_=>none
 |_=>none
def aip(bn:j7 P b6){d:Nat}{N:Nat}{ids:ei}{env:an}{s:c9}{aZ:cW}(h:OO b6 d ids o.op env=some (s,aZ)):gh ⟨P,N,ids⟩ o env σ s:=by
 unfold OO at h;split at h
 ·rename_i T len parts ar;split at h
  ·rename_i aR;have hk:=(kg.get bn.tys aR).kd;simp only[nS]at hk;generalize Y:(Nat.beq parts.size len&&_&&_)=fc at h;cases fc with
   |false=>cases h
   |true=>
    simp only[cond_true]at h;rw[Bool.and_eq_true,Bool.and_eq_true]at Y;split at h
    ·cases h
    ·rename_i ps aK;split at h
     ·cases h
     ·rename_i xs bc;cases ah:pU (Nat.beq d) xs.flatten with
      |true=>rw[ah]at h;cases h
      |false=>
       rw[ah]at h;cases h
       have hi:ids.contains d=false:=by simpa using Y.2
       exact⟨hi,ayU (G:=⟨P,N,ids⟩) ar hk.2.2 (by simpa using Y.1.1) (by simpa using Y.1.2) (by rw[ax4 aK];exact Kv _ bc) ah hi⟩
  ·cases h
 ·cases h
def WS(bn:j7 P b6)(d:Nat):Hint P:=.gs false ([],[]) (λids op env _=>OO b6 d ids op env) λ_ _ _ _ _ _ _ h _=>aip bn h
end
end Go.Proofs.YtmnbolcmepihlaaGreat
