/- Several texts in one. No condition but those that stand in each. -/
import Derived.Test.YtmnbolcmepihlaaGreatAA
import Derived.Sort.Grow
import Derived.Laws.StructEq
import Derived.Test.YtmnbolcmepihlaaGreatRows
import Derived.OwnWalk
namespace Go.Proofs.YtmnbolcmepihlaaGreat
set_option linter.all false
open Go List
def au.find:au→Nat→Option W
 |[],_=>none
 |(k,v)::r,n=>bif Nat.beq k n then some v else au.find r n
def avV:∀{env:au} {t:Nat} {a:W},env.find t=some a→env.get t=a
 |[],_,_,h=>by simp[au.find]at h
 |(k,v)::r,t,a,h=>by
  simp only[au.find]at h;simp only[au.get];cases hk:Nat.beq k t<;>rw[hk]at h
  ·exact avV (env:=r) h
  ·simpa using h
def au.dx(env:au):Operand→Option W
 |.tmp t=>env.find t
 |.const (.int k n)=>some (.int k n)
 |.const (.bool b)=>some (.bool b)
 |.const (.string s)=>some (.str s)
 |.const (.slice none 0 0)=>some .c6
 |.const v=>some (mY v)
 |.func f=>some (.fn f [])
 |.global _=>none
def avz{env:au}{x:Operand}{a:W}(h:env.dx x=some a):env.ev x=a:=by
 unfold au.dx at h;split at h<;>first|exact avV h|(simp only[au.ev,mY];simpa using h)|(simp only[au.ev];simpa using h)|cases h
def au.qL(env:au):List Operand→Option (List W)
 |[]=>some []
 |x::r=>match env.dx x with
  |none=>none
  |some a=>match au.qL env r with
   |none=>none
   |some l=>some (a::l)
def av4{env:au}:∀{xs:List Operand} {l:List W},env.qL xs=some l→xs.map env.ev=l
 |[],l,h=>by simpa [au.qL]using h
 |x::r,l,h=>by
  simp only[au.qL]at h;cases h1:env.dx x with
  |none=>rw[h1]at h;cases h
  |some a=>
   rw[h1]at h;simp only at h;cases D:au.qL env r with
   |none=>rw[D]at h;cases h
   |some gD=>
    rw[D]at h;simp only[Option.some.injEq]at h;subst h;simp[avz h1,av4 D]
def au.u9(env:au):List (Nat×Operand)→Option (List (Nat×W))
 |[]=>some []
 |(i,x)::r=>match env.dx x with
  |none=>none
  |some a=>match au.u9 env r with
   |none=>none
   |some l=>some ((i,a)::l)
def awf{env:au}:∀{xs:List (Nat×Operand)} {l:List (Nat×W)},env.u9 xs=some l→xs.map (λp=>(p.1,env.ev p.2))=l
 |[],l,h=>by simpa [au.u9]using h
 |(i,x)::r,l,h=>by
  simp only[au.u9]at h;cases h1:env.dx x with
  |none=>rw[h1]at h;cases h
  |some a=>
   rw[h1]at h;simp only at h;cases D:au.u9 env r with
   |none=>rw[D]at h;cases h
   |some gD=>
    rw[D]at h;simp only[Option.some.injEq]at h;subst h;simp[avz h1,awf D]
def el{α:Type}[Inhabited α](l:List α)(i:Int):α:=l.getD i.toNat default
def spine{α:Type}:List α→Option (List α)
 |[]=>some []
 |x::r=>match spine r with
  |none=>none
  |some l=>some (x::l)
def vR{α:Type}:∀{xs l:List α},spine xs=some l→xs=l
 |[],l,h=>by simpa [spine]using h
 |x::r,l,h=>by
  simp only[spine]at h;cases D:spine r with
  |none=>rw[D]at h;cases h
  |some gD=>
   rw[D]at h;simp only[Option.some.injEq]at h;rw[←h,vR D]
def uf:W→Option (List W)
 |.agg cs=>spine cs
 |a=>some [a]
def C1{a:W}{cs:List W}(h:uf a=some cs):qC a=cs:=by
 unfold uf at h;split at h
 ·exact vR h
 ·rename_i cA;simp only[Option.some.injEq]at h;rw[←h];cases a<;>first|rfl|exact absurd rfl (cA _)
def qg(dW:Bool)(n:Nat)(cs:List W):Option W:=
 match dW with
 |true=>match spine (cs.take n)with
  |none=>none
  |some l=>some (.agg l)
 |false=>match cs with
  |[]=>none
  |x::_=>some x
def GU{dW:Bool}{n:Nat}{cs:List W}{a:W}(h:qg dW n cs=some a):qi dW n cs=a:=by
 cases dW with
 |true=>
  simp only[qg]at h;cases D:spine (cs.take n)with
  |none=>rw[D]at h;cases h
  |some l=>
   rw[D]at h;simp only[Option.some.injEq]at h;rw[←h,←vR D];rfl
 |false=>
  cases cs with
  |nil=>simp[qg]at h
  |cons x r=>simp only[qg,Option.some.injEq]at h;rw[←h];rfl
def A8(gm:List (Nat×Nat))(cells:List W):List (Nat×W)→Option (List W)
 |[]=>spine cells
 |(i,a)::iT=>match gm[i]? with
  |none=>none
  |some (off,size)=>match uf a with
   |none=>none
   |some ca=>bif Nat.beq ca.length size&&Nat.ble (off+ca.length) cells.length&&a.flat then
     (match spine (jq cells off ca)with
     |none=>none
     |some l=>A8 gm l iT)else none
def RB(gm:List (Nat×Nat)):∀{parts:List (Nat×W)} {cells cw:List W},A8 gm cells parts=some cw→y8 gm cells parts=some cw
 |[],cells,cw,h=>by simp only[A8]at h;simp only[y8];rw[vR h]
 |(i,a)::iT,cells,cw,h=>by
  simp only[A8]at h;simp only[y8];cases aF:gm[i]? with
  |none=>rw[aF]at h;cases h
  |some os=>
   obtain⟨off,size⟩:=os;rw[aF]at h;simp only at h ⊢;cases ah:uf a with
   |none=>rw[ah]at h;cases h
   |some ca=>
    rw[ah]at h;simp only at h;rw[C1 ah];cases U:(Nat.beq ca.length size&&Nat.ble (off+ca.length) cells.length&&a.flat)with
    |false=>rw[U]at h;simp at h
    |true=>
     rw[U]at h;simp only[cond_true]at h ⊢;cases Z:spine (jq cells off ca)with
     |none=>rw[Z]at h;cases h
     |some l=>
      rw[Z]at h;simp only at h;rw[vR Z];exact RB gm h
def yJ(sz:Nat):Nat→List (Nat×W)→Option (List (List W))
 |_,[]=>some []
 |k,(i,a)::r=>match uf a with
  |none=>none
  |some ca=>bif Nat.beq i k&&Nat.beq ca.length sz&&a.flat then
    (match yJ sz (k+1) r with
    |none=>none
    |some l=>some (ca::l))else none
def JK(sz:Nat):∀{parts:List (Nat×W)} {k:Nat} {cw:List (List W)},yJ sz k parts=some cw→vS sz k parts=some cw
 |[],k,cw,h=>by simpa [yJ,vS]using h
 |(i,a)::r,k,cw,h=>by
  simp only[yJ]at h;simp only[vS];cases ah:uf a with
  |none=>rw[ah]at h;cases h
  |some ca=>
   rw[ah]at h;simp only at h;rw[C1 ah];cases U:(Nat.beq i k&&Nat.beq ca.length sz&&a.flat)with
   |false=>rw[U]at h;simp at h
   |true=>
    rw[U]at h;simp only[cond_true]at h ⊢;cases bA:yJ sz (k+1) r with
    |none=>rw[bA]at h;cases h
    |some l=>
     rw[bA]at h;simp only[Option.some.injEq]at h;rw[JK sz bA,←h];rfl
def va(σ:ag):ag→Prop
 |[]=>True
 |(d,o)::r=>σ.get d=some o∧va σ r
def va.mem{σ:ag}:∀{σ2:ag},va σ σ2→∀p∈σ2,σ.get p.1=some p.2
 |[],_,p,h=>by simp at h
 |(d,o)::r,h,p,aF=>by
  rcases mem_cons.1 aF with rfl|aF
  ·exact h.1
  ·exact va.mem h.2 p aF
def Dj(σ:ag)(env:au):au→Prop
 |[]=>True
 |(k,v)::r=>jJ σ (env.get k) v∧Dj σ env r
def Dj.mem{σ:ag}{env:au}:∀{ek:au},Dj σ env ek→∀p∈ek,jJ σ (env.get p.1) p.2
 |[],_,p,h=>by simp at h
 |(d,o)::r,h,p,aF=>by
  rcases mem_cons.1 aF with rfl|aF
  ·exact h.1
  ·exact Dj.mem h.2 p aF
section rules
variable {G:cR}{env:au}{σ:ag}{Q:Exit→au→ag→Prop}{x y c:Code}
def awt{ek:au}{σ2:ag}(he:Dj σ env ek)(Z:va σ σ2):cB G env σ ek σ2:=cB.drop he.mem Z.mem
end rules
section steps
variable {G:cR}{ops:mg}{s:oo}{log:List (Nat×dI)}{i:Nat}{l:dI}{env:au}{σ:ag}{K:au→ag→Prop}{o:Oper}{b9:W}
end steps
section ops
variable {G:cR}{o:Oper}{env:au}{σ:ag}{a:W}
def b4.alloc{T d:Nat}{zs:dQ}{cs:List W}(h:o.op=.alloc T)(hz:∀w,∃z,(zeroValue T).run G.P w=.ok z w∧z.cells=zs.toArray)(ah:s5 zs=cs)(hi:G.ids.contains d=false):
  Yields G o env.ev ((d,.cells T cs)::σ) [d] [d] (.ptr d 0):=by subst ah;exact b6.alloc h hz hi
def b4.box{T d:Nat}{x:Operand}{cs:List W}(h:o.op=.box T x)(u:env.dx x=some a)(bA:a.flat=true)(ah:uf a=some cs)(aI:a.refs (Nat.beq d)=false)(hi:G.ids.contains d=false):
  Yields G o env.ev ((d,.cells T cs)::σ) [d] [d] (.ptr d 0):=b6.box h (avz u) bA (C1 ah) aI hi
def ax2{T be:TypeId}{x:Operand}{n d p:Nat}{dW:Bool}{cs:List W}(h:o.op=.load T x)(u:env.ev x=.ptr d p)(aT:dS G.P T n dW)(af:σ.get d=some (.cells be cs))(bJ:(dW||Nat.blt 0 n)=true)(aX:Nat.ble (p+n) cs.length=true)(aA:qg dW n (cs.drop p)=some a):
  Yields G o env.ev σ [] [d] a:=by rw[←GU aA];exact ax5 h u af aT bJ aX
def ax3{T:TypeId}{x:Operand}{n:Nat}{dW:Bool}{cs:List W}(h:o.op=.load T x)(u:env.ev x=.gq cs)(aT:dS G.P T n dW)(bJ:(dW||Nat.blt 0 n)=true)(aX:Nat.ble n cs.length=true)(aA:qg dW n cs=some a):
  Yields G o env.ev σ [] [] a:=by rw[←GU aA];exact ax6 h u aT bJ aX
def b4.build{T:TypeId}{parts:Array (Nat×Operand)}{zs:dQ}{gm:List (Nat×Nat)}{ps:List (Nat×W)}{cs:List W}(h:o.op=.build T parts)(aT:lD G.P T zs gm)(aF:env.u9 parts.toList=some ps)
  (bA:A8 gm (s5 zs) ps=some cs):Yields G o env.ev σ [] [] (.agg cs):=b6.build h aT (by rw[awf aF];exact RB gm bA)
def b4.makeFunc{f:FuncId}{aV:Array Operand}{l:List W}(h:o.op=.makeFunc (.func f) #[] aV)(aJ:env.qL aV.toList=some l):Yields G o env.ev σ [] [] (.fn f l):=by
 rw[←av4 aJ];exact b6.makeFunc h
def b4.field{T f off n:Nat}{dW:Bool}{x:Operand}{cs:List W}(h:o.op=.field T x f)(u:env.ev x=.agg cs)(aT:hl G.P T f off n dW)(aX:Nat.ble (off+n) cs.length=true)(aA:qg dW n (cs.drop off)=some a):Yields G o env.ev σ [] [] a:=by
 rw[←GU aA];exact b6.field h u aT aX
def b4.call{hS:Operand}{args:Array Operand}{k:Array TypeId}{f:FuncId}{aV dX ps:List W}{σs dG:ag}{r:W}(h:o.op=.call ⟨.value hS,args,k⟩)(bA:env.ev hS=.fn f aV)
  (q9:∀(args:jc) (w:World),(callFunc f args).run G.P w=.ok (.enter f args) w) (ch:dR G.P f dG dX r) (aF:env.qL args.toList=some ps) (aA:mP σs (ps++aV) dX) (Z:va σ σs) (ah:va σs dG)
  (aI:r.closed=true) (uO:dG.clean (λd=>!(dG.ids++[]).contains d)=true):Yields G o env.ev σ [] σs.ids r:=
 b6.call h bA q9 Z.mem (by rw[av4 aF];exact aA) ah.mem ch aI uO
def awq{hS:Operand}{args:Array Operand}{k:Array TypeId}{f:FuncId}{aV dX ps:List W}{dG:ag}{iA:W→ag→Prop}(news:dI)(h:o.op=.call ⟨.value hS,args,k⟩)(bA:env.ev hS=.fn f aV)
  (q9:∀(args:jc) (w:World),(callFunc f args).run G.P w=.ok (.enter f args) w) (ch:eT G.P f dG dX iA) (aF:env.qL args.toList=some ps) (aA:mP σ (ps++aV) dX) (Z:va σ dG)
  (aX:news.all (λd=>!G.ids.contains d&&(σ.get d).isNone)=true) (iD:(σ.minus dG.ids).clean news.contains=true)
  (kI:∀r σ2,iA r σ2→r.refs (λd=>!(dG.ids++news).contains d)=false∧σ2.clean (λd=>!(dG.ids++news).contains d)=true) :
  i2 G o env.ev σ (dG.ids++news) news (λr aH=>∃σ2,iA r σ2∧aH=σ2++σ.minus dG.ids):=
 dD.call news h bA q9 Z.mem (by rw[av4 aF];exact aA) ch aX iD kI
def ax4{T be d p n:Nat}{dW:Bool}{x y:Operand}{cs ca pr:List W}(h:o.op=.store T x y)(u:env.ev x=.ptr d p)(aT:dS G.P T n dW)(ai:env.dx y=some a)(af:σ.get d=some (.cells be cs))
  (bA:a.flat=true) (yh:uf a=some ca) (aX:Nat.beq ca.length n=true) (aJ:Nat.ble (p+n) cs.length=true) (Z:spine (jq cs p ca)=some pr) :
  i2 G o env.ev σ [d] [] (λr aH=>r=.undef∧aH=σ.set d (.cells be pr)):=by
 rw[←vR Z,←C1 yh];exact ayc h u (avz ai) af aT.size bA (by rw[C1 yh];simpa using aX) (by simpa using aJ)
def Lf{n:Int}(h1 : -9223372036854775808≤n)(D:n≤9223372036854775807):IZ .i64 n:=by
 unfold IZ;rw[IntKind.wrap_i64];omega
def K2.tmp{t:Nat}{a:W}(h:env.find t=some a):rj G env σ (.tmp t) a:=by rw[←avV h];exact .tmp t
def K2.cell{a T d be n:Nat}{dW:Bool}{cs:List W}{r:W}(aT:dS G.P T n dW)(aA:env.get a=.ptr d 0)(af:σ.get d=some (.cells be cs))(aX:Nat.beq cs.length n=true)(bJ:(dW||Nat.blt 0 n)=true)(aI:qg dW n cs=some r):rj G env σ (.cell a T) r:=by
 rw[←GU aI];exact .cell a T d be n dW cs aA af aT (by simpa using aX) (λe=>by subst e;simpa using bJ)
end ops
end Go.Proofs.YtmnbolcmepihlaaGreat
namespace Go.Proofs.YtmnbolcmepihlaaGreat
set_option linter.all false
open Go List
def awh:∀σ:ag,σ.freeze []=σ
 |[]=>rfl
 |(d,o)::r=>by simp[ag.freeze,awh r]
section
variable {G:cR}{env:au}{σ iW:ag}{o:Oper}{ev:Operand→W}
def adg{n:Int}(h1:0≤n)(D:n≤18446744073709551615):IZ .u64 n:=by
 unfold IZ;simp only[IntKind.wrap,IntKind.bits,IntKind.signed];simp;omega
end
end Go.Proofs.YtmnbolcmepihlaaGreat
namespace Go.Proofs.YtmnbolcmepihlaaGreat
set_option linter.all false
open Go List
def az{α:Type}(l:List (Int×α))(n:Int):Option α:=(l.find? λp=>decide (p.1=n)).map (·.2)
def bH{α:Type}:List (Int×α)→Int→α→List (Int×α)
 |[],n,v=>[(n,v)]
 |p::r,n,v=>if p.1=n then(n,v)::r else p::bH r n v
def bM{α:Type}(k:IntKind)(enc:α→W)(l:List (Int×α)):List (W×W):=l.map λp=>(.int k p.1,enc p.2)
def FX{I:bG}{α:Type}{k:IntKind}{enc:α→W}(n:Int):∀(l:List (Int×α)) (es:nc) (i:Nat) (a:α),fm I (bM k enc l) es→az l n=some a→
  ∃j v,Instr.findNow (.int k) (.int k n) es i=some (some (i+j,v))∧bm I (enc a) v∧∃e,es[j]?=some e∧e.key=.int k n∧
   ∀(b:α) (aR:Value) (jw:MapEntry→MapEntry),bm I (enc b) aR→(∀e,(jw e).key=.int k n∧(jw e).val=aR)→fm I (bM k enc (bH l n b)) (es.modify j jw)
 |[],es,i,a,h,bw=>by simp[az]at bw
 |(m,b)::r,es,i,a,h,bw=>by
  simp only[bM,map_cons,fm]at h;obtain⟨e,us,rfl,h1,D,aq⟩:=h;simp only[bm]at h1;by_cases hm:m=n
  ·subst hm;simp only[az,List.find?,decide_true,Option.map_some,Option.some.injEq]at bw;subst bw;refine⟨0,e.val,?_,D,e,rfl,h1,?_⟩
   ·simp[Instr.findNow,Instr.sameNow,h1]
   ·intro c aR jw hu hk;simp only[bH,if_pos,bM,map_cons,fm,modify_zero_cons];exact⟨jw e,us,rfl,by simp only[bm];exact(hk e).1,by rw[(hk e).2];exact hu,aq⟩
  ·have uP:az r n=some a:=by simpa [az,List.find?,hm]using bw
   obtain⟨j,v,ak,ax,cC,aO,aL,bg⟩:=FX n r us (i+1) a aq uP;refine⟨j+1,v,?_,ax,cC,by simpa using aO,aL,?_⟩
   ·simp only[Instr.findNow,Instr.sameNow,h1,if_pos];have:(n==m)=false:=by simpa using λe=>hm e.symm
    rw[this];simp only;rw[ak];simp[Nat.add_assoc,Nat.add_comm 1 j]
   ·intro c aR jw hu hk;simp only[bH,if_neg hm,bM,map_cons,fm,modify_succ_cons];exact⟨e,_,rfl,by simp only[bm];exact h1,D,bg c aR jw hu hk⟩
def FY{I:bG}{α:Type}{k:IntKind}{enc:α→W}(n:Int):∀(l:List (Int×α)) (es:nc) (i:Nat),fm I (bM k enc l) es→az l n=none→
  Instr.findNow (.int k) (.int k n) es i=some none∧∀(b:α) (e:MapEntry),bm I (enc b) e.val→e.key=.int k n→fm I (bM k enc (bH l n b)) (es++[e])
 |[],es,i,h,bw=>by
  simp only[bM,map_nil,fm]at h;subst h;refine⟨rfl,λb e U hk=>?_⟩;simp only[bH,bM,map_cons,map_nil,fm,nil_append];exact⟨e,[],rfl,by simp only[bm];exact hk,U,rfl⟩
 |(m,c)::r,es,i,h,bw=>by
  simp only[bM,map_cons,fm]at h;obtain⟨e,us,rfl,h1,D,aq⟩:=h;simp only[bm]at h1;have hm:m≠n:=λhm=>by subst hm;simp[az,List.find?]at bw
  have uP:az r n=none:=by simpa [az,List.find?,hm]using bw
  obtain⟨ak,ax⟩:=FY n r us (i+1) aq uP;refine⟨?_,λb cC U hk=>?_⟩
  ·simp only[Instr.findNow,Instr.sameNow,h1,if_pos];have:(n==m)=false:=by simpa using λe=>hm e.symm
   rw[this];exact ak
  ·simp only[bH,if_neg hm,bM,map_cons,fm,cons_append];exact⟨e,_,rfl,by simp only[bm];exact h1,D,ax b cC U hk⟩
def O0{I:bG}:∀(l:List (W×W)) (es:nc),fm I l es→es.length=l.length
 |[],es,h=>by simp only[fm]at h;subst h;rfl
 |(k,v)::r,es,h=>by
  simp only[fm]at h;obtain⟨e,us,rfl,_,_,aq⟩:=h;simp[O0 r us aq]
structure k4(P:Program)(T K E:TypeId)(k:IntKind):Prop where
 gT:P.underlying T=some (.map K E)
 key:P.underlying K=some (.int k)
section
variable {G:cR}{σ:ag}{o:Oper}{ev:Operand→W}
def b6.makeMap{T d:Nat}{K E:TypeId}(h:o.op=.makeMap T none)(hi:G.ids.contains d=false):Yields G o ev ((d,.map K E [])::σ) [d] [d] (.dm d):=by
 intro aH cx I β w bn c3 av hm hop;have eV:(execOp bn o).run G.P w=.ok (.value (.map (some w.heap.size))) (w.alloc (.map #[] 0)):=by
  simp[execOp,h,Instr.makeMap]
 rw[eV];have mB:=hm d (by simp);refine⟨I,hy β d (.map (some w.heap.size)),by simp only[aC];exact⟨by rw[gX],rfl⟩,?_,cV.refl I,λx u=>iu β _ (λe=>u (by simp[e]))⟩;refine av.real (by simpa using hi) mB rfl λbc cG=>?_;rw[c3 d (by simp),avA,if_pos rfl]at cG;injection cG with cG
 subst cG;simp only[bb,gX];exact .inr ⟨w.heap.size,#[],0,rfl,heap_alloc_new w _,rfl,λo=>av.jG (Nat.le_refl _) o,.inl av.size,by simp[km]⟩
def JP{G:cR}{cx:fO}{I:bG}{β:Nat→Value}{σ:ag}{w:World}(av:cz G cx I β σ w){d:Nat}{K E:TypeId}{bL:List (W×W)}(af:σ.get d=some (.map K E bL)){v:Value}(aa:aC I β (.dm d) v):
  ∃r es clock,v=.map (some r)∧β d=.map (some r)∧w.heap[r]?=some (.map es clock)∧fm I bL es.toList∧(∀o,I r o=none)∧Place cx r∧km es clock:=by
 simp only[aC]at aa;obtain⟨rfl,aa⟩:=aa;have:=av.c4 d _ af;simp only[bb]at this;rcases this with q|⟨r,es,clock,ak,ax,aO,aL,bg⟩
 ·rw[q]at aa;simp[nV]at aa
 ·exact⟨r,es,clock,ak,ak,ax,aO,aL,bg⟩
def w6{P:Program}{w:World}{r:Nat}{es:ia}{c:Nat}(h:w.heap[r]?=some (.map es c)):(getObj r).run P w=.ok (.map es c) w:=by simp[getObj,Sem.run,h]
def CL{P:Program}{K:TypeId}{k:IntKind}(g4:P.underlying K=some (.int k))(e:Bool)(n:Int)(w:World):(Instr.checkKey e 10000 K (.int k n)).run P w=.ok () w:=by
 have aK:∀w,(underlying K).run P w=.ok (.int k) w:=λw=>by simp[underlying,program,Sem.run,g4]
 rw[Instr.checkKey];simp[aK]
def GV(I:bG)(w:World)(v:Value)(bL:List (W×W)):Prop:=∃r es clock,v=.map (some r)∧w.heap[r]?=some (.map es clock)∧fm I bL es.toList
def Zf{G:cR}{cx:fO}{I:bG}{β:Nat→Value}{σ:ag}{w:World}(av:cz G cx I β σ w){d:Nat}{K E:TypeId}{bL:List (W×W)}(af:σ.get d=some (.map K E bL)){v:Value}(aa:aC I β (.dm d) v):GV I w v bL:=by
 obtain⟨r,es,clock,m5,_,ax,aO,_⟩:=JP av af aa;exact⟨r,es,clock,m5,ax,aO⟩
def aa2{G:cR}{cx:fO}{I:bG}{β:Nat→Value}{σ:ag}{w:World}(av:cz G cx I β σ w){d:Nat}{es:ia}{clock:Nat}{K E:TypeId}{bL:List (W×W)}(af:σ.get d=some (.hM es clock K E bL)){v:Value}(aa:aC I β (.dm d) v):GV I w v bL:=by
 simp only[aC]at aa;obtain⟨rfl,aa⟩:=aa;have:=av.c4 d _ af;simp only[bb]at this;rcases this with q|⟨r,ak,ax,aO,_⟩
 ·rw[q]at aa;simp[nV]at aa
 ·exact⟨r,es,clock,ak,ax,aO⟩
def RC{G:cR}{cx:fO}{I:bG}{β:Nat→Value}{σ:ag}{w:World}(av:cz G cx I β σ w){bL:List (W×W)}{v:Value}(aa:aC I β (.c7 bL) v):GV I w v bL:=by
 simp only[aC,bm]at aa;obtain⟨r,es,clock,rfl,D,aq,_⟩:=aa;obtain⟨hA,lY,aZ,bV⟩:=av.iB r _ D;obtain⟨rfl,rfl⟩:=CY bV;exact⟨r,es,clock,rfl,aZ,aq⟩
def Pk{α:Type}{I:bG}{β:Nat→Value}{w:World}{bn:Operand→Value}{T K E:Nat}{k:IntKind}{x y:Operand}{ok:Bool}{n:Int}(l:List (Int×α))(enc:α→W)(z:α)(h:o.op=.lookup T x y ok)(h1:GV I w (bn x) (bM k enc l))(D:bn y=.int k n)
  (aT:k4 G.P T K E k) (hz:∀w,∃v,(zeroValue E).run G.P w=.ok v w∧∀I,bm I (enc z) v) :
  ∃v,(execOp bn o).run G.P w=.ok (.value v) w∧aC I β (bif ok then .c5 [enc ((az l n).getD z),.bool (az l n).isSome]else enc ((az l n).getD z)) v:=by
 obtain⟨r,es,clock,m5,ax,aO⟩:=h1;have aK:∀w,(underlying T).run G.P w=.ok (.map K E) w:=λw=>by simp[underlying,program,Sem.run,aT.gT]
 have e2:∀w,(underlying K).run G.P w=.ok (.int k) w:=λw=>by simp[underlying,program,Sem.run,aT.key]
 have dj:=w6 (P:=G.P) ax;have fF:=CL (P:=G.P) aT.key (es.isEmpty) n w;cases bw:az l n with
 |none=>
  obtain⟨de,_⟩:=FY n l es.toList 0 aO bw;obtain⟨v,nF,pS⟩:=hz w;have g3:(Instr.findKey K (.int k n) es.toList).run G.P w=.ok none w:=by simp[Instr.findKey,e2,de]
  cases ok with
  |true=>
   refine⟨.tuple #[v,.bool false],by simp[execOp,h,Instr.lookup,m5,D,aK,dj,fF,g3,nF],?_⟩;simp only[cond_true,aC,b8];exact⟨_,rfl,v,[.bool false],rfl,bm.rep β _ _ (pS I),.bool false,[],rfl,by simp[bm],rfl⟩
  |false=>
   refine⟨v,by simp[execOp,h,Instr.lookup,m5,D,aK,dj,fF,g3,nF],?_⟩;simp only[cond_false];exact bm.rep β _ _ (pS I)
 |some a=>
  obtain⟨j,v,de,ew,_⟩:=FX n l es.toList 0 a aO bw;have g3:(Instr.findKey K (.int k n) es.toList).run G.P w=.ok (some (0+j,v)) w:=by simp[Instr.findKey,e2,de]
  cases ok with
  |true=>
   refine⟨.tuple #[v,.bool true],by simp[execOp,h,Instr.lookup,m5,D,aK,dj,fF,g3],?_⟩;simp only[cond_true,aC,b8];exact⟨_,rfl,v,[.bool true],rfl,bm.rep β _ _ ew,.bool true,[],rfl,by simp[bm],rfl⟩
  |false=>
   refine⟨v,by simp[execOp,h,Instr.lookup,m5,D,aK,dj,fF,g3],?_⟩;simp only[cond_false];exact bm.rep β _ _ ew
def b6.lookup{α:Type}{T K E d:Nat}{k:IntKind}{x y:Operand}{ok:Bool}{n:Int}(l:List (Int×α))(enc:α→W)(z:α)(h:o.op=.lookup T x y ok)(u:ev x=.dm d)(ai:ev y=.int k n)(af:σ.get d=some (.map K E (bM k enc l)))
  (aT:k4 G.P T K E k) (hz:∀w,∃v,(zeroValue E).run G.P w=.ok v w∧∀I,bm I (enc z) v) :
  Yields G o ev σ [] [d] (bif ok then .c5 [enc ((az l n).getD z),.bool (az l n).isSome]else enc ((az l n).getD z)):=
 .pure λaH cx I β w bn c3 av hop=>by
  have h1:=hop x (by simp[h,Op.operands]);rw[u]at h1
  have D:=hop y (by simp[h,Op.operands]);rw[ai]at D;have D:=kY D
  exact Pk l enc z h (Zf av (by rw[c3 d (by simp)];exact af) h1) D aT hz
def aw1{α:Type}{T K E:Nat}{k:IntKind}{x y:Operand}{ok:Bool}{n:Int}(l:List (Int×α))(enc:α→W)(z:α)(h:o.op=.lookup T x y ok)(u:ev x=.c7 (bM k enc l))(ai:ev y=.int k n)
  (aT:k4 G.P T K E k) (hz:∀w,∃v,(zeroValue E).run G.P w=.ok v w∧∀I,bm I (enc z) v) :
  Yields G o ev σ [] [] (bif ok then .c5 [enc ((az l n).getD z),.bool (az l n).isSome]else enc ((az l n).getD z)):=
 .pure λaH cx I β w bn c3 av hop=>by
  have h1:=hop x (by simp[h,Op.operands]);rw[u]at h1
  have D:=hop y (by simp[h,Op.operands]);rw[ai]at D;have D:=kY D
  exact Pk l enc z h (RC av h1) D aT hz
def RD{α:Type}{I:bG}{β:Nat→Value}{w:World}{bn:Operand→Value}{T K E:Nat}{k:IntKind}{x:Operand}{jw}(l:List (Int×α))(enc:α→W)(h:o.op=.call ⟨.builtin .len,#[x],jw⟩)(hk:jw=#[T])(h1:GV I w (bn x) (bM k enc l))(aT:G.P.underlying T=some (.map K E)):
  ∃v,(execOp bn o).run G.P w=.ok (.value v) w∧aC I β (.int .i64 (l.length:Int)) v:=by
 subst hk;obtain⟨r,es,clock,m5,ax,aO⟩:=h1;have aK:∀w,(underlying T).run G.P w=.ok (.map K E) w:=λw=>by simp[underlying,program,Sem.run,aT]
 have dj:=w6 (P:=G.P) ax;have aJ:=O0 _ _ aO;simp only[Array.length_toList,bM,length_map]at aJ;exact⟨.int .i64 l.length,by simp[execOp,h,resolve,invoke,builtin,Builtin.len_,m5,aK,dj,goInt,aJ],by simp[aC,bm]⟩
def axo{α:Type}{T K E d:Nat}{k:IntKind}{x:Operand}{jw}(l:List (Int×α))(enc:α→W)(h:o.op=.call ⟨.builtin .len,#[x],jw⟩)(hk:jw=#[T])(u:ev x=.dm d)(af:σ.get d=some (.map K E (bM k enc l)))(aT:G.P.underlying T=some (.map K E)):
  Yields G o ev σ [] [d] (.int .i64 (l.length:Int)):=
 .pure λaH cx I β w bn c3 av hop=>by
  have h1:=hop x (by simp[h,Op.operands,Call.operands]);rw[u]at h1
  exact RD l enc h hk (Zf av (by rw[c3 d (by simp)];exact af) h1) aT
def axf{α:Type}{T K E:Nat}{k:IntKind}{x:Operand}{jw}(l:List (Int×α))(enc:α→W)(h:o.op=.call ⟨.builtin .len,#[x],jw⟩)(hk:jw=#[T])(u:ev x=.c7 (bM k enc l))(aT:G.P.underlying T=some (.map K E)):
  Yields G o ev σ [] [] (.int .i64 (l.length:Int)):=
 .pure λaH cx I β w bn c3 av hop=>by
  have h1:=hop x (by simp[h,Op.operands,Call.operands]);rw[u]at h1
  exact RD l enc h hk (RC av h1) aT
def km.push{es:ia}{clock:Nat}(h:km es clock)(k v:Value):km (es.push ⟨k,v,clock⟩) (clock+1):=by
 obtain⟨h1,D⟩:=h;refine⟨?_,λx u=>?_⟩
 ·simp only[Array.toList_push,List.map_append,map_cons,map_nil];rw[nodup_append];refine⟨h1,by simp,λa aA b U=>?_⟩;simp only[List.mem_singleton]at U;obtain⟨x,u,rfl⟩:=List.mem_map.1 aA;have:=D x u;omega
 ·simp only[Array.toList_push,List.mem_append,List.mem_singleton]at u;rcases u with u|rfl
  ·have:=D x u;omega
  ·simp
def km.modify{es:ia}{clock:Nat}(h:km es clock)(j:Nat)(f:MapEntry→MapEntry)(bA:∀e,(f e).born=e.born):km (es.modify j f) clock:=by
 obtain⟨h1,D⟩:=h;have e:(es.modify j f).toList.map (·.born)=es.toList.map (·.born):=by
  apply List.ext_getElem?;intro i;simp only[Array.toList_modify,List.getElem?_map,List.getElem?_modify];cases es.toList[i]? with
  |none=>simp
  |some x=>by_cases hi:j=i<;>simp[hi,bA]
 refine⟨by rw[e];exact h1,λx u=>?_⟩;have:x.born∈(es.modify j f).toList.map (·.born):=List.mem_map.2 ⟨x,u,rfl⟩;rw[e]at this;obtain⟨y,ai,nu⟩:=List.mem_map.1 this;rw[←nu];exact D y ai
def avO(w:World)(r:Nat)(o:Obj):g1 w {w with heap:=w.heap.setIfInBounds r o} r:=
 ⟨λk hk _=>by simp[Array.getElem?_setIfInBounds_ne (Ne.symm hk)],by simp,rfl,rfl,rfl,Nat.le_refl _⟩
def dD.mapUpdate{α:Type}{T K E d:Nat}{k:IntKind}{x y z:Operand}{n:Int}(l:List (Int×α))(enc:α→W)(v:α)(h:o.op=.mapUpdate T x y z∨o.op=.insert T x y z)(u:ev x=.dm d)(ai:ev y=.int k n)(hz:ev z=enc v)(ah:(enc v).closed=true)
  (af:σ.get d=some (.map K E (bM k enc l))) (aT:k4 G.P T K E k) :
  i2 G o ev σ [d] [] (λr aH=>r=.undef∧aH=σ.set d (.map K E (bM k enc (bH l n v)))):=by
 intro cx I β w bn av hop;have kG:x∈o.op.operands∧y∈o.op.operands∧z∈o.op.operands:=by rcases h with h|h<;>simp[h,Op.operands]
 have h1:=hop x kG.1;rw[u]at h1
 have D:=hop y kG.2.1;rw[ai]at D;have D:=kY D
 have aq:=hop z kG.2.2;rw[hz]at aq
 have aq:=aC.closed _ _ ah aq;obtain⟨r,es,clock,m5,ak,ax,aO,aL,bg,bI⟩:=JP av af h1;have aK:∀w,(underlying T).run G.P w=.ok (.map K E) w:=λw=>by simp[underlying,program,Sem.run,aT.gT]
 have e2:∀w,(underlying K).run G.P w=.ok (.int k) w:=λw=>by simp[underlying,program,Sem.run,aT.key]
 have dj:=w6 (P:=G.P) ax;have fF:=CL (P:=G.P) aT.key false n w
 have h8:∀bc:Obj,(setObj r bc).run G.P w=.ok () {w with heap:=w.heap.setIfInBounds r bc}:=λbc=>by
  have:=hQ ax;simp[setObj,Sem.run,ax]
 have xm:∃hA lY,(execOp bn o).run G.P w=.ok .skip {w with heap:=w.heap.setIfInBounds r (.map hA lY)}∧fm I (bM k enc (bH l n v)) hA.toList∧km hA lY:=by
  cases bw:az l n with
  |none=>
   obtain⟨de,ew⟩:=FY n l es.toList 0 aO bw;have g3:(Instr.findKey K (.int k n) es.toList).run G.P w=.ok none w:=by simp[Instr.findKey,e2,de]
   refine⟨_,_,by rcases h with h|h<;>simp[execOp,h,Instr.mapUpdate,m5,D,aK,dj,fF,g3,h8]<;>rfl,?_,?_⟩
   rotate_left
   ·exact bI.push _ _
   simpa using ew v ⟨.int k n,bn z,clock⟩ aq rfl
  |some a=>
   obtain⟨j,aR,de,ew,cC,e1,iS,pe⟩:=FX n l es.toList 0 a aO bw;have g3:(Instr.findKey K (.int k n) es.toList).run G.P w=.ok (some (0+j,aR)) w:=by simp[Instr.findKey,e2,de]
   have jy:es[j]?=some cC:=by simpa using e1
   have ow:(Instr.keyThatStays (.int k n) (.int k n)).run G.P w=.ok (.int k n) w:=by simp[Instr.keyThatStays,Instr.sameBits]
   refine⟨_,_,by rcases h with h|h<;>simp[execOp,h,Instr.mapUpdate,m5,D,aK,dj,fF,g3,h8,jy,iS,ow]<;>rfl,?_,?_⟩
   ·simpa using pe v (bn z) (λe=>{e with key:=.int k n,val:=bn z}) aq (λe=>⟨rfl,rfl⟩)
   ·exact bI.modify _ _ λ_=>rfl
 obtain⟨hA,lY,eV,iG,c1⟩:=xm;rw[eV];refine⟨.undef,_,I,β,⟨rfl,rfl⟩,by simp[aC,bm],?_,cV.refl I,λ_ _=>rfl,λx u=>by rw[avE,if_neg (by simpa using u)]⟩;have ga:cb (β d)=some r:=by rw[ak];rfl
 refine av.turn (d:=d) (avO w r _) bg (λx u=>by rw[avE,if_neg u]) (λx u Z e=>av.ee x d Z (by rw[af];rfl) u r e (kL ga)) (cV.refl I) (λ_ _ _=>rfl)
  (λo v aa=>by rw[aL o]at aa;cases aa) (aL none) (λ_ _=>rfl) (.inr rfl) (h5.refl β) (.inl ga) λbc cG=>?_
 rw[avE,if_pos rfl,af]at cG;injection cG with cG
 subst cG;simp only[bb];exact .inr ⟨r,hA,lY,ak,by have:=hQ ax;simp[Array.getElem?_setIfInBounds,this],iG,aL,bg,c1⟩
def aw2{T:TypeId}{x y:Operand}{k:IntKind}{n:Int}{s:ByteArray}{b:UInt8}(h:o.op=.index T x y)(u:ev x=.str s)(ai:ev y=.int k n)(aT:G.P.underlying T=some .string)(aX:0≤n)(U:s[n.toNat]?=some b):
  Yields G o ev σ [] [] (.int .u8 (b.toNat:Int)):=
 .pure λaH cx I β w bn c3 av hop=>by
  have h1:=hop x (by simp[h,Op.operands]);rw[u]at h1;simp only[aC,bm]at h1
  have D:=hop y (by simp[h,Op.operands]);rw[ai]at D;have D:=kY D
  have aK:∀w,(underlying T).run G.P w=.ok .string w:=λw=>by simp[underlying,program,Sem.run,aT]
  exact⟨.int .u8 b.toNat,by simp[execOp,h,Instr.index,h1,D,asIntOf,aK,aX,U],by simp[aC,bm]⟩
end
end Go.Proofs.YtmnbolcmepihlaaGreat
namespace Go.Proofs.YtmnbolcmepihlaaGreat
set_option linter.all false
open Go Go.Sort List
abbrev RE(P:Program)(f:FuncId):Prop:=∀(cb off aV:Nat) (zs:cO) (w:World),Holds (Value.int .i64) w cb off zs.toArray→cb<w.heap.size→zs.length<4611686018427387904→
  Calls P f #[.slice (some ⟨cb,off,none⟩) zs.length aV] w λe w'=>
   e=.returned (.tuple #[])∧∃n os,w'=grow (putRow (Value.int .i64) (Go.Sort.ahead w n) cb off (zs.mergeSort λx y=>decide (x≤y)).toArray) os
def encI(n:Int):List W:=[.int .i64 n]
def Bn(x:Int):cO→cO
 |[]=>[x]
 |y::r=>if x≤y then x::y::r else y::Bn x r
def fW:cO→cO
 |[]=>[]
 |x::r=>Bn x (fW r)
def Pr(x:Int):∀l:cO,(Bn x l).Perm (x::l)
 |[]=>List.Perm.refl _
 |y::r=>by
  simp only[Bn];split
  ·exact List.Perm.refl _
  ·exact((Pr x r).cons y).trans (List.Perm.swap x y r)
def yE:∀l:cO,(fW l).Perm l
 |[]=>List.Perm.refl _
 |x::r=>(Pr x (fW r)).trans ((yE r).cons x)
def Y1(x:Int):∀l:cO,l.Pairwise (·≤·)→(Bn x l).Pairwise (·≤·)
 |[],_=>by simp[Bn]
 |y::r,h=>by
  simp only[Bn];rw[pairwise_cons]at h;split
  ·rename_i u;rw[pairwise_cons];refine⟨λz hz=>?_,pairwise_cons.2 h⟩;rcases mem_cons.1 hz with rfl|hz
   ·exact u
   ·exact Int.le_trans u (h.1 z hz)
  ·rename_i u;rw[pairwise_cons];refine⟨λz hz=>?_,Y1 x r h.2⟩;rcases mem_cons.1 ((Pr x r).mem_iff.1 hz)with rfl|hz
   ·omega
   ·exact h.1 z hz
def CN:∀l:cO,(fW l).Pairwise (·≤·)
 |[]=>Pairwise.nil
 |x::r=>Y1 x _ (CN r)
def OM:∀{l gD:cO},l.Perm gD→l.Pairwise (·≤·)→gD.Pairwise (·≤·)→l=gD
 |[],gD,h,_,_=>by simpa using h.symm
 |x::r,[],h,_,_=>by simpa using h
 |x::r,y::s,h,h1,D=>by
  rw[pairwise_cons]at h1 D;have nu:x=y:=by
   have iM:x∈y::s:=h.mem_iff.1 (by simp);have a2:y∈x::r:=h.mem_iff.2 (by simp);have ec:y≤x:=by
    rcases mem_cons.1 iM with rfl|iM
    ·exact Int.le_refl _
    ·exact D.1 x iM
   have dY:x≤y:=by
    rcases mem_cons.1 a2 with rfl|a2
    ·exact Int.le_refl _
    ·exact h1.1 y a2
   omega
  subst nu;rw[OM (List.Perm.cons_inv h) h1.2 D.2]
def ZM(zs:cO):(zs.mergeSort λx y=>decide (x≤y))=fW zs:=by
 refine OM ((List.mergeSort_perm zs _).trans (yE zs).symm) ?_ (CN zs);have:=List.pairwise_mergeSort (le:=λx y:Int=>decide (x≤y)) (λa b c h1 D=>by simp at h1 D ⊢;omega) (λa b=>by simp;omega) zs;exact this.imp (λh=>by simpa using h)
def OS(zs:cO):(fW zs).length=zs.length:=(yE zs).length_eq
def AM{I:bG}:∀(zs:cO) (vs:dQ),ds I (zs.map encI).flatten vs↔vs=zs.map (Value.int .i64)
 |[],vs=>by simp[ds]
 |z::r,vs=>by
  simp only[map_cons,flatten_cons,encI,singleton_append,ds,bm];constructor
  ·rintro⟨aR,us,rfl,rfl,h⟩;rw[(AM r us).1 h]
  ·rintro rfl;exact⟨_,_,rfl,rfl,(AM r _).2 rfl⟩
def Z0{P:Program}{f:FuncId}(Z:RE P f)(aX:eT P f [] [.c6] (λr aH=>r=.c5 []∧aH=[])){d T:Nat}(zs:cO)(hz:zs.length<4611686018427387904):
    eT P f [(d,.slice T 1 (zs.map encI) 0 false)] [.own d] (λr aH=>r=.c5 []∧aH=[(d,.slice T 1 ((fW zs).map encI) 0 false)]):=by
  intro cx w I β vs av aI;simp only[b8]at aI;obtain⟨aR,us,rfl,aI,rfl⟩:=aI;have af:ag.get [(d,cE.slice T 1 (zs.map encI) 0 false)] d=some (.slice T 1 (zs.map encI) 0 false):=by rw[avA,if_pos rfl]
  have an:=av.c4 d _ af;simp only[aC]at aI;obtain⟨rfl,aI⟩:=aI;simp only[bb,length_map]at an;rcases an with q|⟨q,ax,_⟩|⟨b,aV,arr,ak,ax,aO,aL,bg,bI,b7,cD,dz,dT,fG⟩
  · rw[q]at aI;simp[i1]at aI
  · have Fl:zs=[]:=by simpa using ax
    subst Fl;have anF:cz ⟨P,0,ag.ids []⟩ cx I β [] w:={av with c4:=λx o h=>by simp[ag.get]at h,ee:=λx y h=>by simp[ag.get]at h,keep:=λx h=>by simp[ag.ids]at h};refine Calls.mono (aX cx w I β [β d] anF (by simp only[b8,aC,bm];exact⟨_,_,rfl,q,rfl⟩)) ?_;rintro e w' ⟨v,rfl,r,aH,bq,β',⟨rfl,rfl⟩,h1,D⟩;refine⟨v,rfl,.c5 [],[(d,.slice T 1 [] 0 false)],bq,β,⟨rfl,by simp[fW]⟩,?_,?_⟩
    · simp only[aC,b8]at h1 ⊢;exact h1
    · exact{D with
        c4:=λx o h=>by
          rw[avA]at h;split at h
          · rename_i e;subst e;injection h with h;subst h
            simp only[bb];exact .inr (.inl ⟨q,trivial,trivial⟩)
          · simp[ag.get]at h
        ee:=λx y u ai cA b U ic=>by
          rw[avA]at u ai;split at u
          · rename_i e;subst e
            split at ai
            · rename_i cC;exact cA cC
            · simp[ag.get]at ai
          · simp[ag.get]at u
        keep:=av.keep}
  · simp only[Nat.mul_one]at bg bI
    have nP:arr.toList.take zs.length=zs.map (Value.int .i64):=(AM zs _).1 bI
    have qM:∀j,j<zs.length→arr[j]?=some (Value.int .i64 (zs[j]?.getD default)):=λj aY=>by
      have:=congrArg (·[j]?) nP;simp only[getElem?_take,if_pos aY,Array.getElem?_toList,List.getElem?_map]at this;rw[this,List.getElem?_eq_getElem aY];rfl
    have nn:Holds (Value.int .i64) w b 0 zs.toArray:=λj aY=>by
      have aY:j<zs.length:=by simpa using aY
      constructor
      · simp only[World.cell?,aL,Nat.zero_add]
        rw[qM j aY];simp[aY]
      · simp[World.frozen?,aL]
    have bS:=hQ aL;have ah:=Z b 0 aV zs w nn bS hz;rw[ak];refine Calls.mono ah ?_;rintro e w' ⟨rfl,n,os,rfl⟩;rw[ZM];have jh:(fW zs).length=zs.length:=OS zs;have z8:(grow (putRow (Value.int .i64) (Go.Sort.ahead w n) b 0 (fW zs).toArray) os).heap[b]?=some (.cells (putCells (Value.int .i64) 0 (fW zs).toArray arr) T (0,0)):=by
      simp only[grow,putRow,mapBlock,Go.Sort.ahead];rw[Array.getElem?_append_left (by simpa using bS),Array.getElem?_modify,if_pos rfl,aL];rfl
    have G8:(putCells (Value.int .i64) 0 (fW zs).toArray arr).toList.take (fW zs).length=(fW zs).map (Value.int .i64):=by
      apply List.ext_getElem?;intro j;rw[getElem?_take,List.getElem?_map];split
      · rename_i aY
        have jb:j<arr.size:=by omega
        rw[Array.getElem?_toList];simp only[putCells,Array.getElem?_mapIdx];rw[Array.getElem?_eq_getElem jb];simp[aY]
      · rename_i aY
        rw[List.getElem?_eq_none (by omega)];rfl
    refine⟨.tuple #[],rfl,.c5 [],_,I,β,⟨rfl,rfl⟩,by simp only[aC,b8];exact⟨_,rfl,rfl⟩,?_⟩;refine cz.turn (b:=b) (d:=d) av ⟨λk hk bS=>?_,by simp[grow,putRow,mapBlock,Go.Sort.ahead],rfl,rfl,rfl,by simp[grow,putRow,mapBlock,Go.Sort.ahead]⟩ fG (λx u=>?_) (λx u h _=>?_) (cV.refl I) (λ_ _ _=>rfl) (λo v aa=>?_) (av.tK aL) (λ_ _=>rfl) (.inr rfl) (h5.refl β) (.inl (by rw[ak];rfl)) (λbc cG=>?_)
    · simp only[grow,putRow,mapBlock,Go.Sort.ahead]
      rw[Array.getElem?_append_left (by simpa using bS),Array.getElem?_modify,if_neg (λe=>hk e.symm)]
    · rw[avA,avA,if_neg (Ne.symm u),if_neg (Ne.symm u)]
    · rw[avA,if_neg (Ne.symm u)]at h;simp[ag.get]at h
    · rw[dT o (by omega)]at aa;cases aa
    · rw[avA,if_pos rfl]at cG
      injection cG with cG
      subst cG;simp only[bb,length_map];refine .inr (.inr ⟨b,aV,_,by rw[ak,jh],by omega,aO,z8,by simpa [putCells]using bg,?_,?_,by omega,?_,?_,fG⟩)
      · rw[Nat.mul_one];exact(AM _ _).2 G8
      · intro e he;obtain⟨x,_,rfl⟩:=List.mem_map.1 he;rfl
      · intro h;cases h
      · intro o _;exact dT o (by omega)
end Go.Proofs.YtmnbolcmepihlaaGreat
namespace Go.Proofs.YtmnbolcmepihlaaGreat
set_option linter.all false
open Go List
mutual
def W.Lg{r s:Nat→Nat}(h:∀x,s (r x)=x):∀a:W,(a.dr r).dr s=a
 |.fP|.undef|.int _ _|.bool _|.str _|.bf _ _|.gq _|.c6|.oC|.e7 _ _|.k7|.c7 _|.arr _=>rfl
 |.agg cs=>by simp only[W.dr,C5 h cs]
 |.c5 cs=>by simp only[W.dr,C5 h cs]
 |.fn _ cs=>by simp only[W.dr,C5 h cs]
 |.own d=>by simp only[W.dr,h d]
 |.ptr d _=>by simp only[W.dr,h d]
 |.ja _ d=>by simp only[W.dr,h d]
 |.dm d=>by simp only[W.dr,h d]
def C5{r s:Nat→Nat}(h:∀x,s (r x)=x):∀l:List W,r0 s (r0 r l)=l
 |[]=>rfl
 |x::t=>by simp only[r0,W.Lg h x,C5 h t]
end
def awd{r s:Nat→Nat}(h:∀x,s (r x)=x):∀(σ:ag) (d:Nat),(σ.dr r).get (r d)=(σ.get d).map (·.dr r)
 |[],d=>rfl
 |(k,v)::t,d=>by
  have:=awd h t d;simp only[ag.dr]at this ⊢;simp only[map_cons,avA];by_cases hk:k=d
  ·subst hk;simp
  ·have:r k≠r d:=λe=>hk (by rw[←h k,←h d,e]);simp only[hk,this,if_false];assumption
def awH(r:Nat→Nat)(σ:ag):(σ.dr r).ids=σ.ids.map r:=by simp[ag.ids,ag.dr]
def bb.dr{cx:fO}{I:bG}{β β':Nat→Value}{w:World}{r:Nat→Nat}(U:∀d,β' (r d)=β d){d:Nat}{o:cE}{rH:fO}(ah:∀b,Place cx b→Place rH b)(h:bb cx I β w d o):bb rH I β' w (r d) (o.dr r):=by
 cases o with
 |cells T cs=>
  simp only[bb,cE.dr,U]at h ⊢;rcases h with q|⟨b,arr,aK,e2,dj,fF,g3⟩
  ·exact .inl q
  ·exact .inr ⟨b,arr,aK,e2,AR (p:=λ_=>false) (λd _=>U d) cs _ (AJ (λ_=>rfl) cs) dj,fF,ah _ g3⟩
 |slice T sz xs k cT=>
  simp only[bb,cE.dr,U]at h ⊢;rcases h with q|q|⟨b,aV,arr,ak,ax,aO,aL,bg,bI,b7,cD,dz,dT,fG⟩
  ·exact .inl q
  ·exact .inr (.inl q)
  ·exact .inr (.inr ⟨b,aV,arr,ak,ax,aO,aL,bg,bI,b7,cD,dz,dT,ah _ fG⟩)
 |win T sz xs=>
  simp only[bb,cE.dr,U]at h ⊢;rcases h with q|q|⟨b,hT,aV,arr,ak,ax,aO,aL,bg,bI,b7,cD,dz⟩
  ·exact .inl q
  ·exact .inr (.inl q)
  ·exact .inr (.inr ⟨b,hT,aV,arr,ak,ax,aO,aL,bg,bI,b7,cD,ah _ dz⟩)
 |map K E bL=>
  simp only[bb,cE.dr,U]at h ⊢;rcases h with q|⟨b,es,c,ak,ax,aO,aL,bg,bI⟩
  ·exact .inl q
  ·exact .inr ⟨b,es,c,ak,ax,aO,aL,ah _ bg,bI⟩
 |k3 K E bL=>
  simp only[bb,cE.dr,U]at h ⊢;rcases h with q|⟨b,es,c,ak,ax,aO,bg,bI⟩
  ·exact .inl q
  ·exact .inr ⟨b,es,c,ak,ax,aO,ah _ bg,bI⟩
 |hM es clock K E bL=>
  simp only[bb,cE.dr,U]at h ⊢;rcases h with q|⟨b,ak,ax,aO,aL,bg,bI⟩
  ·exact .inl q
  ·exact .inr ⟨b,ak,ax,aO,aL,ah _ bg,bI⟩
 |iter cW si kX seen=>
  simp only[bb,cE.dr,U]at h ⊢;rcases h with q|⟨b,gd,ak,ax,aO,aL,bg⟩
  ·exact .inl q
  ·exact .inr ⟨b,gd,ak,ax,aO,aL,ah _ bg⟩
 |hdr cW n=>simpa only[bb,cE.dr,U]using h
 |cL fh=>
  simp only[bb,cE.dr,U]at h ⊢;rcases h with q|⟨Z,ak,ax⟩
  ·exact .inl q
  ·exact .inr ⟨Z,ak,ax.go (cV.refl I) λb _=>⟨λ_=>rfl,λ_=>rfl,ah b⟩⟩
 |hU T xs t=>
  simp only[bb,cE.dr,U]at h ⊢;rcases h with q|⟨aS,aV,arr,ak,ax,aO,aL,bg,bI,b7,cD,dz,dT,fG⟩
  ·exact .inl q
  ·exact .inr ⟨aS,aV,arr,ak,ax,aO,aL,bg,bI,b7,cD,dz,dT,ah _ fG⟩
 |vec T xs=>
  simp only[bb,cE.dr,U]at h ⊢;rcases h with q|⟨aS,arr,ak,ax,aO,aL,bg⟩
  ·exact .inl q
  ·exact .inr ⟨aS,arr,ak,ax,aO,aL,ah _ bg⟩
 |kE es clock bL seen=>
  simp only[bb,cE.dr,U]at h ⊢;rcases h with q|⟨r',gd,ak,ax,aO,aL,bg,bI,b7⟩
  ·exact .inl q
  ·exact .inr ⟨r',gd,ak,ax,aO,aL,bg,bI,ah _ b7⟩
 |e9 T e n dk=>
  have b0:∀Z cN,je β' Z cN (oe r dk)↔je β Z cN dk:=λZ cN=>by
   cases dk with
   |none=>exact Iff.rfl
   |some q=>obtain⟨i,t⟩:=q;cases i<;>simp only[je,oe,U]
  simp only[bb,cE.dr,U,b0]at h ⊢;rcases h with q|⟨aS,aV,arr,Z,ak,ax,aO,aL,bg,bI,b7,cD,dz,dT⟩
  ·exact .inl q
  ·exact .inr ⟨aS,aV,arr,Z,ak,ax,aO,aL,bg,bI,b7,cD,dz,ah _ dT⟩
 |iF T sz xs lZ e dk=>
  have b0:∀Z cN,je β' Z cN (oe r dk)↔je β Z cN dk:=λZ cN=>by
   cases dk with
   |none=>exact Iff.rfl
   |some q=>obtain⟨i,t⟩:=q;cases i<;>simp only[je,oe,U]
  simp only[bb,cE.dr,U,b0]at h ⊢;rcases h with q|⟨aS,aV,arr,Z,vs,ak,ax,aO,aL,bg,bI,b7,cD,dz,dT⟩
  ·exact .inl q
  ·exact .inr ⟨aS,aV,arr,Z,vs,ak,ax,aO,aL,bg,bI,b7,cD,dz,ah _ dT⟩
 |fQ K E e keys dk js=>
  have b0:∀Z cN,je β' Z cN (oe r dk)↔je β Z cN dk:=λZ cN=>by
   cases dk with
   |none=>exact Iff.rfl
   |some q=>obtain⟨i,t⟩:=q;cases i<;>simp only[je,oe,U]
  simp only[bb,cE.dr,U,b0]at h ⊢;rcases h with q|⟨r,es,clock,Z,cN,ak,ax,aO,aL,bg,bI,b7,cD⟩
  ·exact .inl q
  ·exact .inr ⟨r,es,clock,Z,cN,ak,ax,aO,aL,bg,bI,ah _ b7,cD⟩
def ayb{r s:Nat→Nat}(h:∀x,s (r x)=x):∀o:cE,(o.dr r).dr s=o
 |.cells T cs=>by simp only[cE.dr,C5 h cs]
 |.slice ..=>rfl
 |.map ..=>rfl
 |.win ..=>rfl
 |.k3 ..=>rfl
 |.hM ..=>rfl
 |.iter cW _ _ _=>by simp only[cE.dr,h cW]
 |.hdr cW _=>by simp only[cE.dr,h cW]
 |.cL ..=>rfl
 |.hU T xs t=>by simp only[cE.dr,h t]
 |.kE ..=>rfl
 |.vec ..=>rfl
 |.e9 T e n none=>by simp only[cE.dr,oe,h e]
 |.iF T sz xs lZ e none=>by simp only[cE.dr,oe,h e]
 |.iF T sz xs lZ e (some (i,t))=>by simp only[cE.dr,oe,h e,h t]
 |.e9 T e n (some (i,t))=>by simp only[cE.dr,oe,h e,h t]
 |.fQ K E e keys none js=>by simp only[cE.dr,oe,h e]
 |.fQ K E e keys (some (i,t)) js=>by simp only[cE.dr,oe,h e,h t]
def eT.dr{P:Program}{f:FuncId}{iW:ag}{args:List W}{iA:W→ag→Prop}(h:eT P f iW args iA)(r s:Nat→Nat)(tQ:∀x,s (r x)=x)(uU:∀x,r (s x)=x):
    eT P f (iW.dr r) (r0 r args) (λa aH=>∃a0 tE,iA a0 tE∧a=a0.dr r∧aH=tE.dr r):=by
  intro cx w I β vs av aI;have fM:∀x y,r x=r y→x=y:=λx y e=>by rw[←tQ x,←tQ y,e]
  have qB:cz ⟨P,0,iW.ids⟩ {cx with xY:=λx=>cx.xY (r x)} I (λx=>β (r x)) iW w:=
    {good:=av.good,iB:=av.iB,kg:=av.kg,jX:=av.jX,frame:=av.frame,size:=av.size,tape:=av.tape,os:=av.os,output:=av.output,drawn:=av.drawn
     c4:=λd o af=>by
        have h1:=av.c4 (r d) (o.dr r) (by rw[awd tQ,af];rfl);have D:=bb.dr (cx:=cx) (r:=s) (β:=β) (β':=λx=>β (r x)) (λx=>by show β (r (s x))=β x;rw[uU]) (rH:={cx with xY:=λx=>cx.xY (r x)}) (λb U=>U) h1
        rwa [tQ,ayb tQ]at D
     ee:=λd dO af eB cA b U=>av.ee (r d) (r dO) (by rw[awd tQ];simpa using af) (by rw[awd tQ];simpa using eB) (λe=>cA (fM _ _ e)) b U
     keep:=λd af=>av.keep (r d) (by show r d∈(iW.dr r).ids;rw[awH];exact List.mem_map_of_mem af)}
  have sV:b8 I (λx=>β (r x)) args vs:=by
    have:=AR (r:=s) (β':=λx=>β (r x)) (p:=λ_=>false) (λx _=>by show β (r (s x))=β x;rw[uU]) (r0 r args) vs (AJ (λ_=>rfl) _) aI
    rwa [C5 tQ]at this
  refine Calls.mono (h _ w I _ vs qB sV) ?_;rintro e w' ⟨v,rfl,a,aH,bq,β',aF,l9,fU⟩;refine⟨v,rfl,a.dr r,aH.dr r,bq,λx=>β' (s x),⟨a,aH,aF,rfl,rfl⟩,Ln (r:=r) (p:=λ_=>false) (λx _=>by show β' (s (r x))=β' x;rw[tQ]) a v (PA (λ_=>rfl) a) l9,?_⟩
  have qM:∀d,(aH.dr r).get d=(aH.get (s d)).map (·.dr r):=λd=>by
    have:=awd tQ aH (s d)
    rwa [uU]at this
  exact{good:=fU.good,iB:=fU.iB,kg:=fU.kg,jX:=fU.jX,frame:=fU.frame,size:=fU.size,tape:=fU.tape,os:=fU.os,output:=fU.output,drawn:=fU.drawn
        c4:=λd o af=>by
            rw[qM]at af;obtain⟨gO,bJ,rfl⟩:=Option.map_eq_some_iff.1 af;have:=bb.dr (cx:={cx with xY:=λx=>cx.xY (r x)}) (r:=r) (β:=β') (β':=λx=>β' (s x)) (λx=>by show β' (s (r x))=β' x;rw[tQ]) (rH:=cx) (λb U=>U) (fU.c4 (s d) gO bJ)
            rwa [uU]at this
        ee:=λd dO af eB cA b U=>by
            rw[qM]at af eB;exact fU.ee (s d) (s dO) (by simpa using af) (by simpa using eB) (λe=>cA (by rw[←uU d,←uU dO,e])) b U
        keep:=λd af=>by
            have:s d∈iW.ids:=by
              have af:d∈(iW.dr r).ids:=af;rw[awH]at af;obtain⟨x,u,rfl⟩:=List.mem_map.1 af;rw[tQ];exact u
            have:=fU.keep (s d) this;show β' (s d)=_;rw[this];show cx.xY (r (s d))=_;rw[uU]}
def swp(a b x:Nat):Nat:=bif Nat.beq x a then b else bif Nat.beq x b then a else x
def SL(a b x:Nat):swp a b (swp a b x)=x:=by
 have e:∀aR v:Nat,Nat.beq aR v=decide (aR=v):=λaR v=>by rw[Bool.eq_iff_iff];simp
 simp only[swp,e];by_cases h1:x=a
 ·subst h1;by_cases D:b=x
  ·subst D;simp
  ·simp[D]
 ·by_cases D:x=b
  ·subst D;simp[h1]
  ·simp[h1,D]
def r1:List (Nat×Nat)→Nat→Nat
 |[],x=>x
 |(a,b)::r,x=>swp a b (r1 r x)
def DK:List (Nat×Nat)→Nat→Nat
 |[],x=>x
 |(a,b)::r,x=>DK r (swp a b x)
def RF:∀(l:List (Nat×Nat)) (x:Nat),DK l (r1 l x)=x
 |[],x=>rfl
 |(a,b)::r,x=>by simp only[r1,DK,SL,RF r]
def Rk:∀(l:List (Nat×Nat)) (x:Nat),r1 l (DK l x)=x
 |[],x=>rfl
 |(a,b)::r,x=>by simp only[r1,DK,Rk r,SL]
def eT.at{P:Program}{f:FuncId}{iW:ag}{args:List W}{iA:W→ag→Prop}(h:eT P f iW args iA)(l:List (Nat×Nat)):
  eT P f (iW.dr (r1 l)) (r0 (r1 l) args) (λa aH=>∃a0 tE,iA a0 tE∧a=a0.dr (r1 l)∧aH=tE.dr (r1 l)):=
 h.dr (r1 l) (DK l) (RF l) (Rk l)
def Rl{I:bG}{β β':Nat→Value}{b:W}{post:List W}:∀(pre:List W) (vs:dQ) {a:W},b8 I β (pre++a::post) vs→(∀x v,x∈pre∨x∈post→aC I β x v→aC I β' x v)→(∀v,aC I β a v→aC I β' b v)→b8 I β' (pre++b::post) vs
 |[],vs,a,h,h1,D=>by
  simp only[nil_append,b8]at h ⊢;obtain⟨aR,us,rfl,ak,ax⟩:=h;have key:∀(l:List W) (vs:dQ),(∀x∈l,x∈post)→b8 I β l vs→b8 I β' l vs:=by
   intro l;induction l with
   |nil=>intro _ _ h;exact h
   |cons x r bu=>
    intro vs hm h;simp only[b8]at h ⊢;obtain⟨aR,us,rfl,de,ew⟩:=h;exact⟨aR,us,rfl,h1 x aR (.inr (hm x (by simp))) de,bu us (λy ai=>hm y (by simp[ai])) ew⟩
  exact⟨aR,us,rfl,D aR ak,key post us (λx u=>u) ax⟩
 |x::r,vs,a,h,h1,D=>by
  simp only[cons_append,b8]at h ⊢;obtain⟨aR,us,rfl,ak,ax⟩:=h;exact⟨aR,us,rfl,h1 x aR (.inl (by simp)) ak,Rl r us ax (λy v ai=>h1 y v (ai.imp (λh=>by simp[h]) id)) D⟩
def Rm{p:Nat→Bool}:∀{l:List W},qa p l=false→∀x∈l,x.refs p=false
 |[],_,x,h=>by simp at h
 |y::r,h,x,u=>by
  simp only[qa,Bool.or_eq_false_iff]at h;rcases mem_cons.1 u with rfl|u
  ·exact h.1
  ·exact Rm h.2 x u
def axy{G:cR}{env:au}{σ:ag}(d0 d:Nat)(T:TypeId)(sz:Nat)(bp:TypeId)(pre post:List W)(bJ:σ.get d0=some (.cells bp (pre++.c6::post)))(cA:Nat.beq d0 d=false)(hi:G.ids.contains d=false)(ah:env.clean (Nat.beq d)=true)(Z:σ.clean (Nat.beq d)=true):
  cB G env σ env ((d,.slice T sz [] 0 false)::σ.set d0 (.cells bp (pre++.own d::post))):=λcx I β a w h b3=>by
 let β':Nat→Value:=λx=>if x=d then .slice none 0 0 else β x
 have cA:d0≠d:=λe=>by subst e;simp at cA
 have U:∀x,Nat.beq d x=false→β' x=β x:=λx u=>by
  have:x≠d:=λe=>by subst e;simp at u
  show(if x=d then _ else β x)=_;rw[if_neg this]
 have ga:β' d=.slice none 0 0:=by show(if d=d then _ else _)=_;rw[if_pos rfl]
 have h8:∀x,x≠d→ag.get ((d,.slice T sz [] 0 false)::σ.set d0 (.cells bp (pre++.own d::post))) x=if x=d0 then some (.cells bp (pre++.own d::post))else σ.get x:=λx u=>by
  rw[avA,if_neg (Ne.symm u),avE,bJ];rfl
 have XG:∀x,x≠d→(ag.get ((d,.slice T sz [] 0 false)::σ.set d0 (.cells bp (pre++.own d::post))) x).isSome→(σ.get x).isSome:=λx u Z=>by
  rw[h8 x u]at Z;split at Z
  ·rename_i e;subst e;rw[bJ];rfl
  ·exact Z
 refine⟨I,β',{h with c4:=λx o e=>?_,ee:=λx y ex zK nu b=>?_,keep:=λx u=>?_},λaR=>?_⟩
 ·by_cases u:x=d
  ·subst u;rw[avA,if_pos rfl]at e;cases e;simp only[bb,ga];exact .inr (.inl ⟨trivial,trivial,trivial⟩)
  ·rw[h8 x u]at e;split at e
   ·rename_i cC;subst cC;cases e
    have an:=h.c4 x _ bJ;obtain⟨bk,bK⟩:=avI Z x _ bJ;simp only[n2]at bK;simp only[bb,U x bk]at an ⊢;rcases an with q|⟨b,arr,aK,e2,dj,fF⟩
    ·exact .inl q
    ·refine .inr ⟨b,arr,aK,e2,Rl pre _ dj (λy v ai aI=>xh U y v ?_ aI) (λv aa=>?_),fF⟩
     ·exact Rm bK y (by rcases ai with ai|ai<;>simp[ai])
     ·simp only[aC,bm]at aa;simp only[aC,aa,ga,i1,and_self]
   ·obtain⟨bk,bK⟩:=avI Z x o e;exact(h.c4 x o e).beta U bk bK
 ·by_cases u:x=d
  ·subst u;rw[ga];simp[Km]
  ·by_cases ai:y=d
   ·subst ai;rw[ga];simp[Km]
   ·rw[U x (by rw[←Bool.not_eq_true,Nat.beq_eq];exact Ne.symm u),U y (by rw[←Bool.not_eq_true,Nat.beq_eq];exact Ne.symm ai)];exact h.ee x y (XG x u ex) (XG y ai zK) nu b
 ·have:d≠x:=λe=>by subst e;simp at hi;exact hi u
  rw[U x (by rw[←Bool.not_eq_true,Nat.beq_eq];exact this)];exact h.keep x u
 ·exact xh U _ _ (av0 ah aR) (b3 aR)
end Go.Proofs.YtmnbolcmepihlaaGreat
namespace Go.Proofs.YtmnbolcmepihlaaGreat
set_option linter.all false
open Go List
def cz.stay{G:cR}{cx:fO}{I:bG}{β:Nat→Value}{σ:ag}{w w':World}(h:cz G cx I β σ w)(hk:∀b,b<w.heap.size→w'.heap[b]?=w.heap[b]?)(Z:w.heap.size≤w'.heap.size)(b5:w'.tape=w.tape)(an:w'.os=w.os)(hu:w'.output=w.output)(hdr:w.drawn≤w'.drawn):cz G cx I β σ w':=by
  have g4:g1 w w' w.heap.size:=⟨λk _ bS=>hk k bS,Z,b5,an,hu,hdr⟩
  exact{good:=λb o v aa=>by
            have h1:=h.good b o v aa;have bS:b<w.heap.size:=World.block_lt_of_cell? w _ h1;rw[World.cell?_of_block (w:=w) (hk b bS)];exact h1
        iB:=λb v aa=>by
            obtain⟨es,clock,h1,D⟩:=h.iB b v aa;exact⟨es,clock,by rw[hk b (hQ h1)];exact h1,D⟩
        kg:=h.kg,jX:=h.jX
        frame:=λb U hm=>by rw[hk b (Nat.lt_of_lt_of_le U h.size)];exact h.frame b U hm
        size:=Nat.le_trans h.size Z,tape:=b5.trans h.tape,os:=an.trans h.os,output:=hu.trans h.output,drawn:=Nat.le_trans h.drawn hdr
        c4:=λd o af=>(h.c4 d o af).keep g4 rfl (λe=>by have:=h.uc af e;omega) (cV.refl I) (λ_ _ _=>rfl) (h5.refl β)
        ee:=h.ee,keep:=h.keep}
mutual
def W.jK:W→Bool
 |.int _ _=>true
 |.bool _=>true
 |.str _=>true
 |.undef=>true
 |.c5 cs=>rY cs
 |.agg cs=>rY cs
 |_=>false
def rY:List W→Bool
 |[]=>true
 |x::r=>x.jK&&rY r
end
mutual
def aC.jK{I bq:bG}{β β':Nat→Value}:∀(a:W) (v:Value),a.jK=true→aC I β a v→aC bq β' a v
 |.int _ _,v,_,h=>by simpa only[aC,bm]using h
 |.bool _,v,_,h=>by simpa only[aC,bm]using h
 |.str _,v,_,h=>by simpa only[aC,bm]using h
 |.undef,v,_,h=>by simpa only[aC,bm]using h
 |.c5 cs,v,Z,h=>by
  simp only[aC,W.jK]at h Z ⊢;obtain⟨vs,h1,D⟩:=h;exact⟨vs,h1,b8.jK cs _ Z D⟩
 |.agg cs,v,Z,h=>by
  simp only[aC,W.jK]at h Z ⊢;obtain⟨vs,h1,D⟩:=h;exact⟨vs,h1,b8.jK cs _ Z D⟩
 |.fP,_,Z,_|.bf _ _,_,Z,_|.gq _,_,Z,_|.fn _ _,_,Z,_|.c6,_,Z,_|.oC,_,Z,_|.own _,_,Z,_|.ptr _ _,_,Z,_|.dm _,_,Z,_|.e7 _ _,_,Z,_|.k7,_,Z,_|.ja _ _,_,Z,_=>by simp[W.jK]at Z
def b8.jK{I bq:bG}{β β':Nat→Value}:∀(a:List W) (v:dQ),rY a=true→b8 I β a v→b8 bq β' a v
 |[],v,_,h=>h
 |x::r,v,Z,h=>by
  simp only[b8,rY,Bool.and_eq_true]at h Z ⊢;obtain⟨aR,us,h1,D,aq⟩:=h;exact⟨aR,us,h1,aC.jK x aR Z.1 D,b8.jK r us Z.2 aq⟩
end
def OC{I:bG}{sz:Nat}:∀(xs:List (List W)) (i:Nat),(∀e∈xs,e.length=sz)→i<xs.length→∃A B,xs.flatten=A++xs.getD i []++B∧A.length=i*sz∧(∀cC,(xs.set i cC).flatten=A++cC++B)
 |[],_,_,h=>by simp at h
 |e::r,0,aJ,_=>⟨[],r.flatten,by simp,by simp,by simp⟩
 |e::r,i+1,aJ,h=>by
  obtain⟨A,B,h1,D,aq⟩:=OC (I:=I) r i (λx u=>aJ x (by simp[u])) (by simpa using h);refine⟨e++A,B,by simp[h1],?_,by simp[aq]⟩;rw[length_append,D,aJ e (by simp),Nat.add_mul];omega
section ops
variable {G:cR}{o:Oper}{env:au}{σ:ag}{x y:Operand}
def aw3{α:Type}[Inhabited α]{T E sz d be n:Nat}{k:IntKind}{i:Int}{cT:Bool}(rs:List α)(enc:α→List W)(h:o.op=.indexAddr T x y)(u:env.ev x=.own d)(ai:env.ev y=.int k i)(af:σ.get d=some (.slice be sz (rs.map enc) n cT))(aT:lT G.P T E sz)
  (hi:0≤i∧i<rs.length):Yields G o env.ev σ [] [d] (.ptr d (i.toNat*sz)):=
 .pure λaH cx I β w bn c3 av hop=>by
  have h1:=hop x (by simp[h,Op.operands]);rw[u]at h1
  have D:=hop y (by simp[h,Op.operands]);rw[ai]at D;have D:=kY D
  simp only[aC]at h1;obtain⟨h1,Z⟩:=h1;have cG:=av.c4 d _ (by rw[c3 d (by simp)];exact af);simp only[bb,length_map]at cG;have bS:i.toNat<rs.length:=by omega
  rcases cG with q|⟨_,q,_⟩|⟨b,aV,arr,ak,ax,_⟩
  ·rw[h1,q]at Z;simp[i1]at Z
  ·have:rs=[]:=by simpa using q
   subst this;simp at bS
  ·refine⟨.pointer (some ⟨b,i.toNat*sz,none⟩),?_,by simp only[aC];exact⟨b,by rw[ak];rfl,rfl⟩⟩;have aK:∀w,(underlying T).run G.P w=.ok (.slice E) w:=λw=>by simp[underlying,program,Sem.run,aT.gT]
   rw[ak]at h1;simp[execOp,h,h1,D,Instr.indexAt,asIntOf,aK,hi,aT.size,mx]
def Rn{G:cR}{cx:fO}{I:bG}{β:Nat→Value}{σ:ag}{w:World}(av:cz G cx I β σ w){d T sz k b:Nat}{cT:Bool}{xs:List (List W)}(af:σ.get d=some (.slice T sz xs k cT))(U:cb (β d)=some b):
  ∃aV arr,β d=.slice (some ⟨b,0,none⟩) xs.length aV∧xs.length≤aV∧aV≤maxLen∧w.heap[b]?=some (.cells arr T (0,0))∧arr.size=aV*sz∧ds I xs.flatten (arr.toList.take (xs.length*sz))∧(∀e∈xs,e.length=sz)∧k≤xs.length∧
   (cT=true→∀o,o<xs.length*sz→I b o=arr[o]?)∧(∀o,k*sz≤o→I b o=none)∧Place cx b∧b8 I β (xs.flatten++List.replicate (arr.size-xs.length*sz) .fP) arr.toList:=by
 have an:=av.c4 d _ af;simp only[bb]at an;rcases an with q|⟨q,_⟩|⟨aS,aV,arr,ak,ax,aO,aL,bg,bI,b7,cD,dz,dT,fG⟩
 ·rw[q]at U;simp[cb]at U
 ·rw[q]at U;simp[cb]at U
 ·have:aS=b:=by rw[ak]at U;simpa [cb]using U
  subst this;refine⟨aV,arr,ak,ax,aO,aL,bg,bI,b7,cD,dz,dT,fG,?_⟩;have e:arr.toList=arr.toList.take (xs.length*sz)++arr.toList.drop (xs.length*sz):=(take_append_drop _ _).symm;rw[e];refine tM _ _ _ _ (ds.rep β _ _ bI) ?_;have aY:∀(l:dQ),b8 I β (List.replicate l.length .fP) l:=by
   intro l;induction l with
   |nil=>simp[b8]
   |cons v r bu=>simp only[length_cons,List.replicate_succ,b8];exact⟨v,r,rfl,by simp[aC],bu⟩
  have:=aY (arr.toList.drop (xs.length*sz));simpa using this
def axg{α:Type}[Inhabited α]{T be:TypeId}{n d p sz k off:Nat}{cT dW:Bool}{i:Int}(rs:List α)(enc:α→List W)(h:o.op=.load T x)(u:env.ev x=.ptr d p)(af:σ.get d=some (.slice be sz (rs.map enc) k cT))(aF:p=i.toNat*sz+off)
  (hi:0≤i∧i<rs.length) (aT:dS G.P T n dW) (bJ:(dW||Nat.blt 0 n)=true) (aX:Nat.ble (off+n) sz=true) {a:W} (aA:qg dW n ((enc (el rs i)).drop off)=some a):Yields G o env.ev σ [] [d] a:=
 .pure λaH cx I β w bn c3 av hop=>by
  have aX:off+n≤sz:=by simpa using aX
  have h1:=hop x (by simp[h,Op.operands]);rw[u]at h1
  simp only[aC]at h1;obtain⟨b,h1,D⟩:=h1;obtain⟨aV,arr,ak,ax,aO,aL,bg,bI,b7,cD,dz,dT,fG,tq⟩:=Rn av (by rw[c3 d (by simp)];exact af) h1;have bS:i.toNat<rs.length:=by omega
  obtain⟨A,B,dV,eu,_⟩:=OC (I:=I) (rs.map enc) i.toNat b7 (by simpa using bS);have qM:(rs.map enc).getD i.toNat []=enc (el rs i):=by
   simp[getD_eq_getElem?_getD,bS,el]
  rw[qM]at dV;have hz:(enc (el rs i)).length=sz:=b7 _ (by rw[←qM,getD_eq_getElem?_getD,List.getElem?_eq_getElem (by simpa using bS)];exact List.getElem_mem _)
  obtain⟨v,hw,ha⟩:=JC aT (λe=>by subst e;simpa using bJ) (off:=p) aL tq (by
   rw[dV];simp only[length_append,eu,hz];omega)
  refine⟨v,by simp[execOp,h,D,Instr.loadAt,Instr.sureAddr,hw],?_⟩;have e:((List.map enc rs).flatten++List.replicate (arr.size-(List.map enc rs).length*sz) W.fP).drop p=(enc (el rs i)).drop off++(B++List.replicate (arr.size-(List.map enc rs).length*sz) W.fP):=by
   rw[dV,aF,List.append_assoc,List.append_assoc,←drop_drop,←eu,drop_left,drop_append_of_le_length (by omega)]
  rw[e]at ha;have e2:qi dW n ((enc (el rs i)).drop off++(B++List.replicate (arr.size-(List.map enc rs).length*sz) W.fP))=qi dW n ((enc (el rs i)).drop off):=by
   have aJ:n≤((enc (el rs i)).drop off).length:=by simp;omega
   cases dW with
   |true=>simp only[qi,cond_true];rw[take_append_of_le_length aJ]
   |false=>
    simp only[qi,cond_false];have ID:0<n:=by simpa using bJ
    cases ah:(enc (el rs i)).drop off with
    |nil=>rw[ah]at aJ;simp at aJ;omega
    |cons z t=>rfl
  rw[e2,GU aA]at ha;exact ha
def Pm{I:bG}{β:Nat→Value}{a:List W}{v:dQ}(ah:nm a=true)(h:b8 I β a v):ds I a v:=b8.closed a v ah h
def axN{α:Type}[Inhabited α]{T be d p sz k off n:Nat}{cT dW:Bool}{a:W}{ca:List W}{i:Int}{ev:Operand→W}(rs:List α)(enc:α→List W)(r':α)(h:o.op=.store T x y)(u:ev x=.ptr d p)(ai:ev y=a)(af:σ.get d=some (.slice be sz (rs.map enc) k cT))(aF:p=i.toNat*sz+off)
  (hi:0≤i∧i<rs.length) (hk:(k:Int)≤i) (aT:dS G.P T n dW) (bA:a.flat=true) (yh:uf a=some ca) (iD:nm ca=true) (aX:Nat.beq ca.length n=true) (aJ:Nat.ble (off+n) sz=true) (aI:jq (enc (el rs i)) off ca=enc r') :
  i2 G o ev σ [d] [] (λr aH=>r=.undef∧aH=σ.set d (.slice be sz ((rs.set i.toNat r').map enc) k false)):=by
 intro cx I β w bn av hop;have aX:ca.length=n:=by simpa using aX
 have aJ:off+n≤sz:=by simpa using aJ
 have h1:=hop x (by simp[h,Op.operands]);rw[u]at h1
 have D:=hop y (by simp[h,Op.operands]);rw[ai]at D
 simp only[aC]at h1;obtain⟨b,h1,aq⟩:=h1;obtain⟨aV,arr,ak,ax,aO,aL,bg,bI,b7,cD,dz,dT,fG,tq⟩:=Rn av af h1;obtain⟨f1,f2⟩:=awl bA D;rw[C1 yh]at f1;have ku:=tL _ _ f1;have bS:i.toNat<rs.length:=by omega
 obtain⟨A,B,dV,eu,s3⟩:=OC (I:=I) (rs.map enc) i.toNat b7 (by simpa using bS);have qM:(rs.map enc).getD i.toNat []=enc (el rs i):=by simp[getD_eq_getElem?_getD,bS,el]
 rw[qM]at dV;have hz:(enc (el rs i)).length=sz:=b7 _ (by rw[←qM,getD_eq_getElem?_getD,List.getElem?_eq_getElem (by simpa using bS)];exact List.getElem_mem _);have anL:(enc r').length=sz:=by rw[←aI];simp only[jq,length_append,length_take,length_drop,hz];omega
 simp only[length_map]at ak ax bg bI cD;have k2:i.toNat*sz+sz≤rs.length*sz:=by
  have:=Nat.mul_le_mul_right sz (show i.toNat+1≤rs.length from bS)
  rwa [Nat.add_mul,Nat.one_mul]at this
 have atY:rs.length*sz≤arr.size:=by rw[bg];exact Nat.mul_le_mul_right sz ax
 have oa:=Fs (P:=G.P) aL (bn y).cells.toList (off:=p) (by omega) f2;have Od:(bn y).cells.size=ca.length:=by simpa using ku
 have eV:(execOp bn o).run G.P w=.ok .skip (w.setRow b (jq arr.toList p (bn y).cells.toList).toArray):=by
  have aK:¬((bn y).cells.size≠n):=by omega
  simp[execOp,h,aq,Instr.storeAt,Instr.sureAddr,storeVar,aT.size,aK,oa]
 rw[eV];refine⟨.undef,_,I,β,⟨rfl,rfl⟩,by simp[aC,bm],?_,cV.refl I,λ_ _=>rfl,λx u=>by rw[avE,if_neg (by simpa using u)]⟩;have atL:k*sz≤p:=by
  have:k≤i.toNat:=by omega
  have:=Nat.mul_le_mul_right sz this;omega
 refine av.turn (d:=d) (g1.setRow w b _) fG (λx u=>by rw[avE,if_neg u]) (λx u Z e=>av.ee x d Z (by rw[af];rfl) u b e (kL h1)) (cV.refl I) (λ_ _ _=>rfl)
  (λo v aa=>?_) (av.tK aL) (λ_ _=>rfl) (.inr rfl) (h5.refl β) (.inl h1) λbc cG=>?_
 ·
  have an:o<k*sz:=by
   by_cases an:o<k*sz
   ·exact an
   ·rw[dT o (by omega)]at aa;cases aa
  have bw:=av.good b o v aa;simp only[World.cell?,aL]at bw;simp only[World.cell?,setRow_heap w b arr _ be _ aL];simp only[Option.isSome_none,Bool.false_eq_true,if_false]at bw ⊢;rw[←bw];have:o<p:=by omega
  simp only[jq,getElem?_toArray];rw[List.append_assoc,List.getElem?_append_left (by simp;omega),getElem?_take,if_pos this,Array.getElem?_toList]
 ·rw[avE,if_pos rfl,af]at cG;injection cG with cG
  subst cG;simp only[bb,length_map,length_set];refine .inr (.inr ⟨b,aV,_,ak,ax,aO,setRow_heap w b arr _ be _ aL,?_,?_,?_,cD,(λh=>by cases h),dT,fG⟩)
  ·simp only[jq,size_toArray,length_append,length_take,length_drop,Array.length_toList];omega
  ·have qw:=Pm (I:=I) iD f1;have key:((rs.set i.toNat r').map enc).flatten=A++(jq (enc (el rs i)) off ca)++B:=by
    rw[List.map_set,s3,aI]
   rw[key];rw[dV]at bI;obtain⟨h0,j7,aK,hw,ha⟩:=(oL _ _ _).1 bI;obtain⟨xP,avj,e2,mJ,ql⟩:=(oL _ _ _).1 hw;have m1:=qW _ _ mJ;have m2:=qW _ _ ql;have ua:=qW _ _ ha;have fF:enc (el rs i)=(enc (el rs i)).take off++((enc (el rs i)).drop off):=(take_append_drop _ _).symm;rw[fF]at ql;obtain⟨wk,avk,g3,xC,v8⟩:=(oL _ _ _).1 ql;have an7:=qW _ _ xC;have jy:(enc (el rs i)).drop off=((enc (el rs i)).drop off).take n++(enc (el rs i)).drop (off+n):=by
    rw[←drop_drop];exact(take_append_drop _ _).symm
   rw[jy]at v8;obtain⟨O5,u8,ow,aoE,aoF⟩:=(oL _ _ _).1 v8;have an8:=qW _ _ aoE;have aoc:wk.length=off:=by rw[an7,length_take];omega
   have aod:O5.length=n:=by rw[an8,length_take,length_drop];omega
   have nP:(jq arr.toList p (bn y).cells.toList).take (rs.length*sz)=xP++(wk++(bn y).cells.toList++u8)++j7:=by
    have aA:arr.toList=(xP++(wk++(O5++u8))++j7)++arr.toList.drop (rs.length*sz):=by
     conv=>lhs;rw[←take_append_drop (rs.length*sz) arr.toList]
     rw[aK,e2,g3,ow]
    have eZ:(xP++wk).length=p:=by rw[length_append,m1,aoc,eu,aF]
    have np:(bn y).cells.toList.length=n:=by rw[ku,aX]
    have yz:jq arr.toList p (bn y).cells.toList=(xP++wk)++(bn y).cells.toList++(u8++(j7++arr.toList.drop (rs.length*sz))):=by
     unfold jq;rw[np];have Iv:arr.toList=(xP++wk)++(O5++(u8++(j7++arr.toList.drop (rs.length*sz)))):=by
      conv=>lhs;rw[aA]
      simp only[List.append_assoc]
     have t1:arr.toList.take p=xP++wk:=by rw[Iv,←eZ,take_left]
     have t2:arr.toList.drop (p+n)=u8++(j7++arr.toList.drop (rs.length*sz)):=by
      rw[←drop_drop]
      conv=>lhs;rw[Iv]
      rw[←eZ,drop_left,←aod,drop_left]
     rw[t1,t2]
    rw[yz];have eH:((xP++wk)++(bn y).cells.toList++(u8++j7)).length=rs.length*sz:=by
     have iy:=congrArg List.length (aK.trans (by rw[e2,g3,ow]));simp only[length_take,length_append,Array.length_toList]at iy;simp only[length_append,np];omega
    have:(xP++wk)++(bn y).cells.toList++(u8++(j7++arr.toList.drop (rs.length*sz)))=((xP++wk)++(bn y).cells.toList++(u8++j7))++arr.toList.drop (rs.length*sz):=by simp
    rw[this,←eH,take_left];simp
   rw[nP];refine(oL _ _ _).2 ⟨_,_,rfl,(oL _ _ _).2 ⟨_,_,rfl,mJ,?_⟩,ha⟩;unfold jq;rw[aX];exact(oL _ _ _).2 ⟨_,_,rfl,(oL _ _ _).2 ⟨_,_,rfl,xC,qw⟩,aoF⟩
  ·intro e he;obtain⟨z,ji,rfl⟩:=List.mem_map.1 he;rcases List.mem_or_eq_of_mem_set ji with ji|rfl
   ·exact b7 _ (List.mem_map_of_mem ji)
   ·exact anL
end ops
end Go.Proofs.YtmnbolcmepihlaaGreat
namespace Go.Proofs.YtmnbolcmepihlaaGreat
set_option linter.all false
open Go List
section
variable {P:Program}{w:World}{d:Nat}{xs bF:jc}{f:Field}{jD:List Field}{T off:Nat}{r:Bool}
def adi:(Op.eqFields d xs bF []).run P w=.ok true w:=rfl
def SM{k er:IntKind}{a b:Int}(bA:(f.name== "_",f.type,f.offset)=(false,T,off))(hz:∀w,(isAgg T).run P w=.ok false w)(aT:P.underlying T=some (.int er))(u:xs[off]?=some (.int k a))(ai:bF[off]?=some (.int k b))
  (h:(Op.eqFields (d+1) xs bF jD).run P w=.ok r w):(Op.eqFields (d+1) xs bF (f::jD)).run P w=.ok (decide (a=b)&&r) w:=by
 simp only[Prod.mk.injEq]at bA;obtain⟨h1,D,aq⟩:=bA;have h1:f.name≠ "_":=by simpa using h1
 simp only[Op.eqFields,D,aq,if_pos h1];have aoz:(part T xs off).run P w=.ok (.int k a) w:=by simp[part,hz,Array.getElem!_eq_getD,Array.getD_eq_getD_getElem?,u]
 have aoA:(part T bF off).run P w=.ok (.int k b) w:=by simp[part,hz,Array.getElem!_eq_getD,Array.getD_eq_getD_getElem?,ai]
 simp only[Sem.run_bind,aoz,aoA,Result.andThen_ok,run_equalIn_int w d T k er a b aT];by_cases e:a=b
 ·simp[e,h]
 ·simp[e]
def Y2{l:List Field}{x:Bool×Nat×Nat}{r:List (Bool×Nat×Nat)}(h:l.map (λf=>(f.name== "_",f.type,f.offset))=x::r):∃f t,l=f::t∧(f.name== "_",f.type,f.offset)=x∧t.map (λf=>(f.name== "_",f.type,f.offset))=r:=by
 cases l with
 |nil=>simp at h
 |cons f t=>simp only[map_cons,List.cons.injEq]at h;exact⟨f,t,rfl,h.1,h.2⟩
def aas{l:List Field}(h:l.map (λf=>(f.name== "_",f.type,f.offset))=[]):l=[]:=by simpa using h
end
def awc{G:cR}{c:Code}{Q:Exit→au→ag→Prop}{env:au}{σ:ag}(h:aP G c (λe env σ=>∃ek σ2,cB G env σ ek σ2∧Q e ek σ2) env σ):aP G c Q env σ:=by
 refine avZ λcx a w aI=>wp_mono (aP.use h cx a w aI) ?_;rintro e gW w' ⟨g0,aH,oz,ek,σ2,av,bP⟩;exact⟨ek,σ2,av.rel oz,bP⟩
def adj{α:Type}(enc:α→List W)(h:∀r,(enc r).all W.one=true)(l:List α):(l.map enc).flatten.all W.one=true:=by
 induction l with
 |nil=>rfl
 |cons x r bu=>rw[map_cons,flatten_cons,List.all_append,h x,bu];rfl
def hW{P:Program}{T f off n Qm:Nat}{dW:Bool}{jD:Array Field}(hu:P.underlying T=some (.struct jD))(bA:(jD[f]?).map (λg=>(g.type,g.offset))=some (Qm,off))(b5:dS P Qm n dW)(aF:dW=false→n=1):hl P T f off n dW where
 pos:=aF
 run:=λcs w h=>by
  cases bw:jD[f]? with
  |none=>rw[bw]at bA;cases bA
  |some g=>
   rw[bw]at bA;simp only[Option.map_some,Option.some.injEq,Prod.mk.injEq]at bA;simp only[Instr.field,Sem.run_bind,run_underlying hu,Result.andThen_ok,bw,bA.1,bA.2,asAgg,Sem.run_pure];cases dW with
   |true=>simp[part,b5.agg,b5.size]
   |false=>
    have:=aF rfl;subst this;simp[part,b5.agg,Array.getD_eq_getD_getElem?,Array.getElem?_eq_getElem (show off<cs.size by omega)]
end Go.Proofs.YtmnbolcmepihlaaGreat
namespace Go.Proofs.YtmnbolcmepihlaaGreat
set_option linter.all false
open Go List
section win
variable {G:cR}{o:Oper}{ev:Operand→W}{σ:ag}
def bb.ah9{cx:fO}{I:bG}{β:Nat→Value}{w:World}{d T sz k:Nat}{xs:List (List W)}(h:bb cx I β w d (.slice T sz xs k true))(hk:k=xs.length):bb cx I β w d (.win T sz xs):=by
 simp only[bb]at h ⊢;rcases h with q|⟨q,ax,_⟩|⟨b,aV,arr,ak,ax,aO,aL,bg,bI,b7,cD,dz,dT,fG⟩
 ·exact .inl q
 ·exact .inr (.inl ⟨q,ax⟩)
 ·refine .inr (.inr ⟨b,0,aV,arr,ak,ax,aO,aL,λ_=>by omega,?_,b7,λ_ o an=>dT o (by rw[hk];omega),fG⟩);refine AK xs 0 _ bI λj v aa=>?_;rw[Nat.zero_add];rw[getElem?_take]at aa;split at aa
  ·rename_i bS;rw[dz trivial j bS];simpa using aa
  ·cases aa
def cB.win{env:au}{d T sz k:Nat}{xs:List (List W)}(af:σ.get d=some (.slice T sz xs k true))(hk:k=xs.length):cB G env σ env (σ.set d (.win T sz xs)):=λcx I β a w h b3=>by
 refine⟨I,β,{h with c4:=λx bc u=>?_,ee:=λx y u ai=>?_},b3⟩
 ·rw[avE]at u;split at u
  ·rename_i e;subst e;rw[af]at u;cases u;exact(h.c4 _ _ af).ah9 hk
  ·exact h.c4 x bc u
 ·have:∀x,(ag.get (σ.set d (.win T sz xs)) x).isSome→(σ.get x).isSome:=λx u=>by
   rw[avE]at u;split at u
   ·rename_i e;subst e;rw[af];rfl
   ·exact u
  exact h.ee x y (this x u) (this y ai)
def axO{T E sz be d d2:Nat}{x:Operand}{lo:Option Operand}{xs:List (List W)}(h:o.op=.slice T x lo none none)(u:ev x=.own d)(af:σ.get d=some (.win be sz xs))(aT:lT G.P T E sz)(CD:yY ev lo)
  (hf:0≤nQ ev lo∧nQ ev lo≤xs.length) (hi:G.ids.contains d2=false) (ah:(σ.minus [d]).clean [d2].contains=true) :
  i2 G o ev σ [d,d2] [d2] (λr aH=>r=.own d2∧aH=(d2,.win be sz (xs.drop (nQ ev lo).toNat))::σ.minus [d]):=by
 intro cx I β w bn av hop;have fc:=hop x (by simp[h,Op.operands]);rw[u]at fc;simp only[aC]at fc;obtain⟨fc,eg⟩:=fc;generalize aJ:nQ ev lo=l at hf ⊢;have qB:cz G cx I β (σ.minus [d]) w:=av.sub λx bc u=>by rw[avK]at u;split at u<;>first|cases u|exact u
 have rP:=qB.qJ (eM:=[d2]) (σ2:=(d2,.win be sz (xs.drop l.toNat))::σ.minus [d]) (env:=[]) ⟨λx u=>by rw[avA,if_neg (λe=>u (by simp[e]))],λx u=>by simp at u;subst u;simpa using hi,rfl,ah,λx u cW n h=>by simp at u;subst u;rw[avA,if_pos rfl]at h;cases h⟩;have h8:∀x,x≠d2→gY β [d2] x=β x:=λx u=>by simp[gY,u]
 have an:=av.c4 d _ af;simp only[bb]at an;have run:∀(a:Option Addr) (c:Nat),bn x=.slice a xs.length c→xs.length≤c→(execOp bn o).run G.P w=.ok (.value (.slice (if c=l.toNat then a else a.map (·.add (l.toNat*sz))) (xs.length-l.toNat) (c-l.toNat))) w:=by
  intro a c h1 D;have aK:(Instr.sliceBounds true xs.length c (lo.map bn) none none).run G.P w=.ok (l.toNat,xs.length,c) w:=by
   cases lo with
   |none=>
    simp only[nQ]at aJ;subst aJ;simp[Instr.sliceBounds]
   |some y=>
    obtain⟨k,n,ak,ax⟩:=A7 CD (hop y (by simp[h,Op.operands]));simp only[nQ,ak]at aJ;subst aJ;have:=run_sliceBound (P:=G.P) (k:=k) (code:=.sliceB) (w:=w) hf;simp[Instr.sliceBounds,ax,this]
  have e2:∀w,(underlying T).run G.P w=.ok (.slice E) w:=λw=>run_underlying aT.gT w;simp only[execOp,h,Instr.sliceAt,Instr.slice,h1,Sem.run_bind,e2,Result.andThen_ok,aK,aT.size,Sem.run_pure,Option.map_none]
 have fin:∀(dM:Value),(execOp bn o).run G.P w=.ok (.value dM) w→i1 dM=true→(∀b∈dA dM,b∈dA (β d))→bb cx I (hy β d2 dM) w d2 (.win be sz (xs.drop l.toNat))→
   pN G.P (λv w'=>∃(b9:W) (aH:ag) (bq:bG) (β':Nat→Value),(b9=.own d2∧aH=(d2,cE.win be sz (xs.drop l.toNat))::σ.minus [d])∧aC bq β' b9 v∧cz G cx bq β' aH w'∧cV I bq∧(∀x,x∉[d2]→β' x=β x)∧(∀x,x∉[d,d2]→aH.get x=σ.get x)) ((execOp bn o).run G.P w):=by
  intro dM eV jh ga cG;rw[eV];refine⟨.own d2,_,I,hy β d2 dM,⟨rfl,rfl⟩,by simp only[aC,gX,jh,and_self],?_,cV.refl I,λx u=>iu β dM (by simpa using u),λx u=>?_⟩
  ·have iD:∀x bc,(σ.minus [d]).get x=some bc→x≠d2∧n2 [d2].contains bc=false:=λx bc u=>by
    obtain⟨bk,bK⟩:=avI ah x bc u;exact⟨by simpa using bk,bK⟩
   have sL:∀x,[d2].contains x=false→hy β d2 dM x=β x:=λx u=>iu β dM (by simpa using u);refine{qB with c4:=λx bc u=>?_,ee:=λx y u ai cA b=>?_,keep:=λx u=>?_}
   ·rw[avA]at u;split at u
    ·rename_i e;subst e;cases u;exact cG
    ·obtain⟨bk,bK⟩:=avI ah x bc u;exact(qB.c4 x bc u).beta sL bk bK
   ·have A2:∀x,(ag.get ((d2,cE.win be sz (xs.drop l.toNat))::σ.minus [d]) x).isSome→x≠d2→(σ.get x).isSome∧x≠d:=λx u aX=>by
     rw[avA,if_neg (Ne.symm aX),avK]at u;split at u
     ·cases u
     ·rename_i hm;exact⟨u,by simpa using hm⟩
    by_cases eW:x=d2
    ·subst eW;have Ao:y≠x:=λe=>cA e.symm;obtain⟨dV,eu⟩:=A2 y ai Ao;rw[gX,iu β dM Ao];intro aK e2;exact av.ee y d dV (by rw[af];rfl) eu b e2 (ga b aK)
    ·obtain⟨dV,eu⟩:=A2 x u eW;rw[iu β dM eW];by_cases Ao:y=d2
     ·subst Ao;rw[gX];intro aK e2;exact av.ee x d dV (by rw[af];rfl) eu b aK (ga b e2)
     ·obtain⟨t1,t2⟩:=A2 y ai Ao;rw[iu β dM Ao];exact av.ee x y dV t1 cA b
   ·have:x≠d2:=λe=>by subst e;rw[←Bool.not_eq_true]at hi;exact hi (by simpa using u)
    rw[iu β dM this];exact av.keep x u
  ·have u:x≠d∧x≠d2:=by simpa using u
   rw[avA,if_neg (Ne.symm u.2),avK,if_neg (by simpa using u.1)]
 rcases an with q|⟨q,rfl⟩|⟨b,gO,aV,arr,ak,ax,aO,aL,bg,bI,b7,cD,dz⟩
 ·rw[q]at fc;rw[fc]at eg;simp[i1]at eg
 ·have am4:l=0:=by simp at hf;omega
  subst am4;refine fin _ (run none 0 (by rw[fc,q];rfl) (by simp)) rfl (by simp[dA,cb]) ?_;simp only[bb,gX];exact .inr (.inl ⟨by simp,by simp⟩)
 ·have Ad:l.toNat≤xs.length:=by omega
  refine fin _ (run _ aV (by rw[fc,ak]) ax) rfl ?_ ?_
  ·intro aS ic;rw[ak];split at ic
   ·exact ic
   ·simp only[Option.map_some,mx]at ic;exact ic
  ·simp only[bb,gX];have eH:(xs.drop l.toNat).length=xs.length-l.toNat:=by simp
   refine .inr (.inr ?_);by_cases iD:aV=l.toNat
   ·have Ct:xs.drop l.toNat=[]:=drop_eq_nil_of_le (by omega);refine⟨b,gO,aV-l.toNat,arr,by rw[if_pos iD,eH],by rw[eH];omega,by omega,aL,λb0=>by omega,by rw[Ct];trivial,by rw[Ct];simp,λb0=>by omega,dz⟩
   ·refine⟨b,gO+l.toNat*sz,aV-l.toNat,arr,?_,by rw[eH];omega,by omega,aL,λb0=>?_,JD _ _ _ b7 bI,λe he=>b7 e (mem_of_mem_drop he),λb0 o an=>?_,dz⟩
    ·rw[if_neg iD,eH];simp[mx]
    ·rw[eH]at b0;have:=bg (by omega);have e:gO+l.toNat*sz+(aV-l.toNat)*sz=gO+aV*sz:=by
      rw[Nat.add_assoc,←Nat.add_mul];congr 2;omega
     omega
    ·rw[eH]at b0 an;refine cD (by omega) o ?_;have e:gO+l.toNat*sz+(xs.length-l.toNat)*sz=gO+xs.length*sz:=by
      rw[Nat.add_assoc,←Nat.add_mul];congr 2;omega
     omega
def YD{I:bG}{b sz:Nat}:∀{xs bF:List (List W)} {o:Nat},(∀e∈xs,e.length=sz)→(kf I b (xs++bF) o↔kf I b xs o∧kf I b bF (o+xs.length*sz))
 |[],bF,o,_=>by simp[kf]
 |x::r,bF,o,h=>by
  simp only[cons_append,kf,length_cons];rw[YD (λe he=>h e (by simp[he])),h x (by simp),Nat.add_mul,Nat.one_mul,and_assoc,Nat.add_assoc,Nat.add_comm sz]
def aqN{P:Program}(w:World)(t ty e:TypeId)(i:TypeInfo)(b5:P.underlying t=some (.slice e))(hi:P.info? e=some i)
  (g off A0 OP:Nat) (ov:jc) (bw:w.heap[g]?=some (.cells ov e (0,0)))
  (a:Addr) (m c:Nat) (news:dQ) (aJ:news.length=m*i.size) (sU:∀j aR,news[j]?=some aR→w.cell? (a.add j)=some aR) (h1:∀aR∈news,aR.oneCell'=true)
  (oA:A0+m≤OP) (zZ:off+A0*i.size+news.length≤ov.size) :
  (Builtin.append_ #[t,t] ty #[.slice (some ⟨g,off,none⟩) A0 OP,.slice (some a) m c]).run P w =
   .ok (.slice (some ⟨g,off,none⟩) (A0+m) OP) (w.setRow g (ov.toList.take (off+A0*i.size)++news++ov.toList.drop (off+A0*i.size+news.length)).toArray):=by
 have bA:=run_firstCells_some (P:=P) w i.size m a m c news aJ sU;have oa:=run_storeCells_at P g (off+A0*i.size) e news 0 ov w bw (by simpa using zZ) h1;simp only[Nat.add_zero]at oa;simp[Builtin.append_,run_underlying b5,Go.sizeOf,typeInfo,hi,Builtin.lenOf,oA,bA,mx,oa]
def axM{s x:Operand}{T E sz bytes d d2 be:Nat}{f:Bool}{xs bF:List (List W)}(h:o.op=.call ⟨.builtin .append,#[s,x],#[T,T]⟩)(Z:ev s=.own d)(af:σ.get d=some (.win be sz xs))(u:jJ σ (ev x) (.bf f bF))(aT:kO G.P T E sz bytes)(iG:be=E)
  (vO:∀e∈bF,e.length=sz) (h1:bF.flatten.all W.one=true) (U:(xs.length+bF.length)*bytes≤140737488355328) (qY:xs.length+bF.length≤maxLen) (hi:G.ids.contains d2=false)
  (ah:(σ.minus [d]).clean [d2].contains=true) :
  i2 G o ev σ [d,d2] [d2] (λr aH=>r=.own d2∧aH=(d2,.win be sz (xs++bF))::σ.minus [d]):=by
 subst iG;intro cx I β w bn av hop;have fc:=hop s (by simp[h,Op.operands,Call.operands]);rw[Z]at fc;simp only[aC]at fc;obtain⟨fc,eg⟩:=fc;have cr:=u.rep av _ (hop x (by simp[h,Op.operands,Call.operands]));simp only[aC,bm]at cr;obtain⟨a,c,cr,eW,lC,_,o2⟩:=cr;obtain⟨i,z,hB,ji,hN,nv,tT⟩:=aT.info;have sU:∃news:dQ,ds I bF.flatten news∧(bF.length=0∨∃ad:Addr,a=some ad∧∀j aR,news[j]?=some aR→w.cell? (ad.add j)=some aR):=by
  rcases o2 with rfl|⟨b,o,rfl,aI⟩
  ·exact⟨[],rfl,.inl rfl⟩
  ·obtain⟨vs,ak,ax⟩:=CM av.good bF o aI;exact⟨vs,ak,.inr ⟨_,rfl,λj aR hu=>by rw[mx];exact ax j aR hu⟩⟩
 obtain⟨news,q2,nM⟩:=sU;have l4:news.length=bF.length*sz:=by rw[qW _ _ q2];exact Ay bF vO
 have nr:=Rj _ _ h1 q2;have nN:xs.length+bF.length≤9223372036854775807:=by simp only[maxLen]at qY;omega
 have qB:cz G cx I β (σ.minus [d]) w:=av.sub λx bc u=>by rw[avK]at u;split at u<;>first|cases u|exact u
 have rP:=qB.qJ (eM:=[d2]) (σ2:=(d2,.win be sz (xs++bF))::σ.minus [d]) (env:=[]) ⟨λx u=>by rw[avA,if_neg (λe=>u (by simp[e]))],λx u=>by simp at u;subst u;simpa using hi,rfl,ah,λx u cW n h=>by simp at u;subst u;rw[avA,if_pos rfl]at h;cases h⟩;have h8:∀x,x≠d2→gY β [d2] x=β x:=λx u=>by simp[gY,u]
 have fin:∀(dM:Value) (w':World) (b:Nat) (bq:bG),(execOp bn o).run G.P w=.ok (.value dM) w'→i1 dM=true→g1 w w' b→Place cx b→(∀x,((σ.minus [d]).get x).isSome→b∉dA (β x))→
   cV I bq→(∀aS,aS≠b→∀o,bq aS o=I aS o)→
   (∀(o:Nat) v,bq b o=some v→w'.cell? ⟨b,o,none⟩=some v)→bq b none=none→(cb dM=some b∨dA dM=[])→bb cx bq (hy β d2 dM) w' d2 (.win be sz (xs++bF))→
   pN G.P (λv w'=>∃(b9:W) (aH:ag) (bq:bG) (β':Nat→Value),(b9=.own d2∧aH=(d2,cE.win be sz (xs++bF))::σ.minus [d])∧aC bq β' b9 v∧cz G cx bq β' aH w'∧cV I bq∧(∀x,x∉[d2]→β' x=β x)∧(∀x,x∉[d,d2]→aH.get x=σ.get x)) ((execOp bn o).run G.P w):=by
  intro dM w' b bq eV jh hk aF rN hle ef A6 Ag ga cG;rw[eV];refine⟨.own d2,_,bq,hy β d2 dM,⟨rfl,rfl⟩,by simp only[aC,gX,jh,and_self],?_,hle,λx u=>iu β dM (by simpa using u),λx u=>?_⟩
  ·refine rP.turn (d:=d2) hk aF (λ_ _=>rfl) (λx u nN e=>?_) hle ef A6 Ag (λx u=>by rw[iu β dM u,h8 x u]) (.inl (by simpa using hi)) (λx=>?_) (by rw[gX];exact ga) (λbc mD=>?_)
   ·rw[avA,if_neg (Ne.symm u)]at nN;rw[h8 x u]at e;exact rN x nN e
   ·by_cases u:x=d2
    ·left;simp[gY,u]
    ·right;rw[iu β dM u,h8 x u]
   ·rw[avA,if_pos rfl]at mD;injection mD with mD
    subst mD;exact cG
  ·have u:x≠d∧x≠d2:=by simpa using u
   rw[avA,if_neg (Ne.symm u.2),avK,if_neg (by simpa using u.1)]
 have r3:∀b,cb (β d)=some b→∀x,((σ.minus [d]).get x).isSome→b∉dA (β x):=λb ga x u e=>by
  rw[avK]at u;split at u
  ·cases u
  ·rename_i pK;exact av.ee x d u (by rw[af];rfl) (by simpa using pK) b e (kL ga)
 have fresh:∀x,((σ.minus [d]).get x).isSome→w.heap.size∉dA (β x):=λx u e=>by
  obtain⟨bc,u⟩:=Option.isSome_iff_exists.1 u;exact absurd (qB.uc u e) (by omega)
 have ud:∀nD,nD<xs.length+bF.length→xs.length+bF.length≤grownCap w (xs.length+bF.length) nD be∧grownCap w (xs.length+bF.length) nD be≤maxLen:=λnD _=>⟨grownCap_ge _ _ _ _,grownCap_le_maxLen _ _ _ _ qY⟩;have ue:∀bc,g1 w (w.drew.alloc bc) w.heap.size:=λbc=>(g1.alloc w.drew bc).drew
 have Tn:∀(iJ:dQ) (aV:Nat),ds I xs.flatten iJ→iJ.length=xs.length*sz→(∀e∈xs,e.length=sz)→xs.length+bF.length≤aV→aV≤maxLen→
   (execOp bn o).run G.P w=.ok (.value (.slice (some ⟨w.heap.size,0,none⟩) (xs.length+bF.length) aV)) (w.drew.alloc (.cells (iJ.toArray++news.toArray++Builtin.zeroCells z.cells (aV-(xs.length+bF.length))) be))→
   pN G.P (λv w'=>∃(b9:W) (aH:ag) (bq:bG) (β':Nat→Value),(b9=.own d2∧aH=(d2,cE.win be sz (xs++bF))::σ.minus [d])∧aC bq β' b9 v∧cz G cx bq β' aH w'∧cV I bq∧(∀x,x∉[d2]→β' x=β x)∧(∀x,x∉[d,d2]→aH.get x=σ.get x)) ((execOp bn o).run G.P w):=by
  intro iJ aV oV l5 Fb qv sN eV;have eH:(iJ++news).length=(xs++bF).length*sz:=by rw[length_append,length_append,l5,l4,Nat.add_mul]
  let bq:bG:=I.on λb o=>if b=w.heap.size then(iJ++news)[o]? else I b o
  have hle:cV I bq:=λb o v aa=>by
   cases o with
   |none=>exact aa
   |some o=>
   show(if b=w.heap.size then _ else I b o)=some v;split
   ·rename_i e;subst e;rw[av.jG (Nat.le_refl _)]at aa;cases aa
   ·exact aa
  have Mc:∀o:Nat,bq w.heap.size o=(iJ++news)[o]?:=λo=>by show(if _ then _ else _)=_;rw[if_pos rfl]
  have adl:(iJ.toArray++news.toArray++Builtin.zeroCells z.cells (aV-(xs.length+bF.length))).toList=(iJ++news)++(Builtin.zeroCells z.cells (aV-(xs.length+bF.length))).toList:=by simp
  refine fin _ _ w.heap.size bq eV rfl (ue _) (.inl av.size) fresh hle (λaS ic o=>by cases o with|none=>rfl|some o=>show(if _ then _ else _)=_;rw[if_neg ic]) (λo v aa=>?_) (av.jG (Nat.le_refl _) none) (.inl rfl) ?_
  ·rw[Mc]at aa;have yq:=heap_alloc_new w.drew (.cells (iJ.toArray++news.toArray++Builtin.zeroCells z.cells (aV-(xs.length+bF.length))) be);have yq:(w.drew.alloc (.cells (iJ.toArray++news.toArray++Builtin.zeroCells z.cells (aV-(xs.length+bF.length))) be)).heap[w.heap.size]?=some (.cells (iJ.toArray++news.toArray++Builtin.zeroCells z.cells (aV-(xs.length+bF.length))) be (0,0)):=yq;simp only[World.cell?,yq];have bS:=(List.getElem?_eq_some_iff.1 aa).1;have:((iJ.toArray++news.toArray++Builtin.zeroCells z.cells (aV-(xs.length+bF.length))).toList)[o]?=some v:=by rw[adl,List.getElem?_append_left bS];exact aa
   rw[Array.getElem?_toList]at this;exact this
  ·simp only[bb,gX];refine .inr (.inr ⟨w.heap.size,0,aV,_,by rw[length_append],by rw[length_append];exact qv,sN,heap_alloc_new w.drew _,λ_=>?_,?_,?_,λ_ o an=>?_,.inl av.size⟩)
   ·simp only[Array.size_append,size_toArray,size_zeroCells,tT,l5,l4,←Nat.add_mul];rw[Nat.zero_add];refine Nat.mul_le_mul_right _ ?_;omega
   ·refine AK _ 0 (iJ++news) ?_ λj v aa=>by rw[Nat.zero_add,Mc];exact aa
    rw[List.flatten_append];exact ni hle _ _ ((oL _ _ _).2 ⟨_,_,rfl,oV,q2⟩)
   ·intro e he;rcases List.mem_append.1 he with he|he
    ·exact Fb e he
    ·exact vO e he
   ·rw[Mc,List.getElem?_eq_none];rw[eH];omega
 have an:=av.c4 d _ af;simp only[bb]at an;rcases an with q|⟨q,rfl⟩|⟨b,gO,aV,arr,ak,ax,aO,aL,bg,bI,b7,cD,dz⟩
 ·rw[q]at fc;rw[fc]at eg;simp[i1]at eg
 ·
  rcases Nat.eq_zero_or_pos bF.length with hm|hm
  ·have ai:bF=[]:=eq_nil_of_length_eq_zero hm;subst ai;refine fin (.slice none 0 0) w w.heap.size I (pt h ?_) rfl ⟨λ_ _ _=>rfl,Nat.le_refl _,rfl,rfl,rfl,Nat.le_refl _⟩ (.inl av.size) fresh (cV.refl I) (λ_ _ _=>rfl) (λo v aa=>by rw[av.jG (Nat.le_refl _)]at aa;cases aa) (av.jG (Nat.le_refl _) none) (.inr rfl) ?_
   ·rw[fc,cr,q];cases a<;>simp[Builtin.append_,run_underlying aT.gT,Go.sizeOf,typeInfo,hB,Builtin.lenOf,Builtin.firstCells,loadCells,loadCellsFrom]
   ·simp only[bb,gX];exact .inr (.inl ⟨trivial,rfl⟩)
  ·obtain⟨ad,rfl,kr⟩:=nM.resolve_left (by omega);have aI:=run_append_nil (P:=G.P) w T o.type be i z aT.gT hB ji ad bF.length c news (by rw[hN];exact l4) kr hm (by simp at nN;omega) (by simp at U;rw[nv];omega);obtain⟨dc,dg⟩:=ud 0 (by simp;exact hm);simp only[length_nil,Nat.zero_add]at dc dg;have:=Tn [] (grownCap w bF.length 0 be) rfl (by simp) (by simp) (by simpa using dc) dg;refine this ?_;have j5:=aI;rw[←cr,show(Value.slice none 0 0)=bn s by rw[fc,q]]at j5;have:=pt h j5;simpa using this
 ·have ga:cb (β d)=some b:=by rw[ak];rfl
  by_cases oA:xs.length+bF.length≤aV
  ·rcases Nat.eq_zero_or_pos bF.length with hm|hm
   ·have ai:bF=[]:=eq_nil_of_length_eq_zero hm;subst ai;refine fin (.slice (some ⟨b,gO,none⟩) xs.length aV) w b I (pt h ?_) rfl ⟨λ_ _ _=>rfl,Nat.le_refl _,rfl,rfl,rfl,Nat.le_refl _⟩ dz (r3 b ga) (cV.refl I) (λ_ _ _=>rfl) (λo v aa=>av.good b o v aa) (av.tK aL) (.inl rfl) ?_
    ·rw[fc,cr,ak];cases a<;>simp[Builtin.append_,run_underlying aT.gT,Go.sizeOf,typeInfo,hB,Builtin.lenOf,Builtin.firstCells,loadCells,loadCellsFrom,ax,storeCells]
    ·simp only[bb,gX,append_nil];exact .inr (.inr ⟨b,gO,aV,arr,rfl,ax,aO,aL,bg,bI,b7,cD,dz⟩)
   ·obtain⟨ad,rfl,kr⟩:=nM.resolve_left (by omega);have bS:xs.length<aV:=by omega
    have k2:=bg bS;have zZ:gO+xs.length*i.size+news.length≤arr.size:=by
     rw[hN,l4,Nat.add_assoc,←Nat.add_mul];have:=Nat.mul_le_mul_right sz oA;omega
    have aI:=aqN (P:=G.P) w T o.type be i aT.gT hB b gO xs.length aV arr aL ad bF.length c news (by rw[hN];exact l4) kr nr oA zZ;rw[hN]at aI zZ;have uM:gO+xs.length*sz≤arr.toList.length:=by simp only[Array.length_toList];omega
    let bq:bG:=I.on λaS o=>if aS=b∧gO+xs.length*sz≤o∧o<gO+xs.length*sz+news.length then news[o-(gO+xs.length*sz)]? else I aS o
    have rN:=cD bS
    have hle:cV I bq:=λaS o v aa=>by
     cases o with
     |none=>exact aa
     |some o=>
     show(if aS=b∧_∧_ then _ else I aS o)=some v;split
     ·rename_i e;obtain⟨aK,e2,_⟩:=e;subst aK;rw[rN o e2]at aa;cases aa
     ·exact aa
    have nP:∀o,((arr.toList.take (gO+xs.length*sz)++news++arr.toList.drop (gO+xs.length*sz+news.length)).toArray)[o]?=if o<gO+xs.length*sz then arr[o]? else if o<gO+xs.length*sz+news.length then news[o-(gO+xs.length*sz)]? else arr[o]?:=by
     intro o;have IL:(arr.toList.take (gO+xs.length*sz)).length=gO+xs.length*sz:=by rw[length_take,Nat.min_eq_left uM]
     rw[getElem?_toArray];by_cases bk:o<gO+xs.length*sz
     ·rw[if_pos bk,List.append_assoc,List.getElem?_append_left (by omega),getElem?_take,if_pos bk,Array.getElem?_toList]
     ·rw[if_neg bk];by_cases bK:o<gO+xs.length*sz+news.length
      ·rw[if_pos bK,List.getElem?_append_left (by rw[length_append,IL];omega),List.getElem?_append_right (by omega),IL]
      ·rw[if_neg bK,List.getElem?_append_right (by rw[length_append,IL];omega),length_append,IL,getElem?_drop,Array.getElem?_toList];congr 1;omega
    refine fin _ _ b bq (pt h (by rw[fc,cr,ak];exact aI)) rfl (g1.setRow w b _) dz (r3 b ga) hle (λaS ic o=>by cases o with|none=>rfl|some o=>show(if _ then _ else _)=_;rw[if_neg (λe=>ic e.1)]) (λo v aa=>?_) (av.tK aL) (.inl rfl) ?_
    ·simp only[World.cell?,setRow_heap w b arr _ be _ aL];have:((arr.toList.take (gO+xs.length*sz)++news++arr.toList.drop (gO+xs.length*sz+news.length)).toArray)[o]?=some v:=by
      rw[nP]
      change (if b=b∧gO+xs.length*sz≤o∧o<gO+xs.length*sz+news.length then news[o-(gO+xs.length*sz)]? else I b o)=some v at aa
      split at aa
      ·rename_i e;rw[if_neg (by omega),if_pos e.2.2];exact aa
      ·rename_i e;have bw:=av.good b o v aa;simp only[World.cell?,aL]at bw;have bw:arr[o]?=some v:=by simpa using bw
       split
       ·exact bw
       ·split
        ·rename_i bk bK;exact absurd ⟨rfl,by omega,bK⟩ e
        ·exact bw
     simpa using this
    ·simp only[bb,gX];refine .inr (.inr ⟨b,gO,aV,_,by rw[length_append],by rw[length_append];exact oA,aO,setRow_heap w b arr _ be _ aL,λ_=>?_,?_,?_,λb0 o an=>?_,dz⟩)
     ·have:(arr.toList.take (gO+xs.length*sz)++news++arr.toList.drop (gO+xs.length*sz+news.length)).length=arr.toList.length:=by
       simp only[length_append,length_take,length_drop];rw[Nat.min_eq_left uM];simp only[Array.length_toList]at uM ⊢;omega
      simp only[size_toArray,this,Array.length_toList];exact k2
     ·rw[YD (λe he=>b7 e he)];refine⟨Ax hle _ _ _ bI,?_⟩;refine AK bF _ news (ni hle _ _ q2) λj v aa=>?_;have aY:=(List.getElem?_eq_some_iff.1 aa).1;show(if b=b∧_∧_ then _ else _)=_;rw[if_pos ⟨rfl,by omega,by omega⟩,show gO+xs.length*sz+j-(gO+xs.length*sz)=j by omega];exact aa
     ·intro e he;rcases List.mem_append.1 he with he|he
      ·exact b7 e he
      ·exact vO e he
     ·rw[length_append,Nat.add_mul]at an;show(if b=b∧_∧_ then _ else _)=_;rw[if_neg (by rw[l4];omega)];exact rN o (by omega)
  ·
   have hm:0<bF.length:=by omega
   obtain⟨ad,rfl,kr⟩:=nM.resolve_left (by omega);obtain⟨iJ,iR,gP⟩:=CM av.good xs gO bI;have qz:iJ.length=xs.length*sz:=by rw[qW _ _ iR];exact Ay xs b7
   have aI:=run_append_grow (P:=G.P) w T o.type be i z aT.gT hB ji ⟨b,gO,none⟩ xs.length aV iJ (by rw[hN];exact qz) (λj v aa=>by rw[mx];exact gP j v aa) ad bF.length c news (by rw[hN];exact l4) kr (by omega) (by omega) (growslice_fits (by omega) (by rw[nv];exact U));obtain⟨dc,dg⟩:=ud aV (by omega);exact Tn _ _ iR qz b7 dc dg (pt h (by rw[fc,cr,ak];exact aI))
def DL(d:Nat)(xs:List (List W))(ev:Operand→W)(x:Operand):W:=match ev x with
 |.own dO=>bif Nat.beq dO d then .bf false xs else .own dO
 |a=>a
def Ro{d:Nat}{xs:List (List W)}{ev:Operand→W}{x:Operand}(h:ev x=.own d):DL d xs ev x=.bf false xs:=by simp[DL,h]
def aaD{d:Nat}{xs:List (List W)}{ev:Operand→W}{x:Operand}{k:IntKind}{n:Int}(h:ev x=.int k n):DL d xs ev x=.int k n:=by simp[DL,h]
def Yields.win{G:cR}{o:Oper}{ev:Operand→W}{σ:ag}{b9:W}{d T sz:Nat}{xs:List (List W)}(af:σ.get d=some (.win T sz xs))(h:Yields G o (DL d xs ev) σ [] [] b9):Yields G o ev σ [] [d] b9:=
 λaH cx I β w bn c3 av hm hop=>h aH cx I β w bn (λx u=>by cases u) av hm λx u=>by
  have bJ:=hop x u;unfold DL;split
  ·rename_i dO he;rw[he]at bJ;cases U:Nat.beq dO d with
   |false=>exact bJ
   |true=>
    have:=Nat.eq_of_beq_eq_true U;subst this;exact av.win (by rw[c3 _ (by simp)];exact af) bJ
  ·exact bJ
end win
def iK(w:World):bG:=λb o=>match o with
 |some o=>w.cell? ⟨b,o,none⟩
 |none=>match w.heap[b]? with
  |some (.map es clock)=>some (qF es clock)
  |_=>none
variable {w:World}
def C2(b:Nat)(o:Nat)(v:Value)(h:iK w b o=some v):w.cell? ⟨b,o,none⟩=some v:=h
def CQ(b:Nat)(v:Value)(h:iK w b none=some v):∃es clock,w.heap[b]?=some (.map es clock)∧v=qF es clock:=by
 simp only[iK]at h;split at h
 ·rename_i es clock U;cases h;exact⟨es,clock,U,rfl⟩
 ·cases h
variable {I:bG}{cx:fO}{β:Nat→Value}
def cz.LH{G:cR}{σ:ag}(av:cz G cx I β σ w):cV I (iK w):=λb o v aa=>by
 cases o with
 |some o=>exact av.good b o v aa
 |none=>
  obtain⟨es,clock,h1,rfl⟩:=av.iB b v aa;simp only[iK,h1]
def cz.ae5{G:cR}{σ:ag}(av:cz G cx I β σ w){b:Nat}{o:j4}{v:Value}(aa:I b o=some v):b<w.heap.size:=by
 rcases Nat.lt_or_ge b w.heap.size with h|h
 ·exact h
 ·rw[av.jG h o]at aa;cases aa
end Go.Proofs.YtmnbolcmepihlaaGreat
namespace Go.Proofs.YtmnbolcmepihlaaGreat
section
set_option linter.all false
abbrev zI0:Value:=.int .i64 0
abbrev zS0:Value:=.slice none 0 0
open Go Go.Proofs.Tryz
set_option maxRecDepth 100000
abbrev fD(i:Nat)(c:List Value):Prop:=∀w,∃z,(zeroValue i).run prog w=.ok z w∧z.cells=c.toArray
def anb:prog.follows .mixedOrders=true:=by kernel_rfl
def aro:fD 2 [zI0]:=λw=>⟨_,zeroValue2 w,rfl⟩
def Zn:fD 3 [zI0]:=λw=>⟨_,zeroValue3 w,rfl⟩
def Zo:fD 4 [.bool false]:=λw=>⟨_,zeroValue4 w,rfl⟩
def arC:fD 5 [.int .u8 0]:=λw=>⟨_,zeroValue5 w,rfl⟩
def arD:fD 6 [.int .u8 0]:=λw=>⟨_,zeroValue6 w,rfl⟩
def arF:fD 7 [zI0,zI0,.bool false,.int .u8 0]:=λw=>⟨_,zeroValue7 w,rfl⟩
def arG:fD 8 [zI0,zI0,.bool false,.int .u8 0]:=λw=>⟨_,zeroValue8 w,rfl⟩
def arH:fD 9 [.string ⟨#[]⟩]:=λw=>⟨_,zeroValue9 w,rfl⟩
def arc:fD 10 [.string ⟨#[]⟩]:=λw=>⟨_,zeroValue10 w,rfl⟩
def ard:fD 11 [.string ⟨#[]⟩]:=λw=>⟨_,zeroValue11 w,rfl⟩
def are:fD 12 [.int .u64 0]:=λw=>⟨_,zeroValue12 w,rfl⟩
def arf:fD 13 [.string ⟨#[]⟩,.int .u64 0]:=λw=>⟨_,zeroValue13 w,rfl⟩
def arh:fD 14 [.string ⟨#[]⟩,.int .u64 0]:=λw=>⟨_,zeroValue14 w,rfl⟩
def ari:fD 15 [.pointer none]:=λw=>⟨_,zeroValue15 w,rfl⟩
def arj:fD 16 [.pointer none]:=λw=>⟨_,zeroValue16 w,rfl⟩
def ark:fD 17 [.pointer none]:=λw=>⟨_,zeroValue17 w,rfl⟩
def arl:fD 18 [.pointer none]:=λw=>⟨_,zeroValue18 w,rfl⟩
def arn:fD 19 [.pointer none]:=λw=>⟨_,zeroValue19 w,rfl⟩
def arp:fD 21 [.int .i32 0]:=λw=>⟨_,zeroValue21 w,rfl⟩
def arq:fD 22 [zS0]:=λw=>⟨_,zeroValue22 w,rfl⟩
def ars:fD 23 [.pointer none]:=λw=>⟨_,zeroValue23 w,rfl⟩
def art:fD 25 [zS0]:=λw=>⟨_,zeroValue25 w,rfl⟩
def aru:fD 26 [zS0]:=λw=>⟨_,zeroValue26 w,rfl⟩
def arv:fD 27 [zS0,zS0]:=λw=>⟨_,zeroValue27 w,rfl⟩
def arw:fD 28 [zS0,zS0]:=λw=>⟨_,zeroValue28 w,rfl⟩
def arx:fD 30 [zI0,.bool false]:=λw=>⟨_,zeroValue30 w,rfl⟩
def Vr:fD 31 [zI0,.bool false]:=λw=>⟨_,zeroValue31 w,rfl⟩
def ary:fD 34 [zS0]:=λw=>⟨_,zeroValue34 w,rfl⟩
def arz:fD 35 [zI0,zS0]:=λw=>⟨_,zeroValue35 w,rfl⟩
def arA:fD 36 [zI0,zS0]:=λw=>⟨_,zeroValue36 w,rfl⟩
def arB:fD 37 [zI0]:=λw=>⟨_,zeroValue37 w,rfl⟩
def Vs:fD 62 [zI0,zI0,zI0,zI0,zI0]:=λw=>⟨_,zeroValue62 w,rfl⟩
def arE:fD 63 [.nilFunc]:=λw=>⟨_,zeroValue63 w,rfl⟩
def Vt:fD 84 [zI0,zI0]:=λw=>⟨_,zeroValue84 w,rfl⟩
def Vu:fD 85 [zS0]:=λw=>⟨_,zeroValue85 w,rfl⟩
def arI:fD 98 [zS0]:=λw=>⟨_,zeroValue98 w,rfl⟩
def aia:fD 103 [zS0,zI0]:=λw=>⟨_,zeroValue103 w,rfl⟩
def aib:fD 105 [zS0]:=λw=>⟨_,zeroValue105 w,rfl⟩
def UI:fD 106 [zS0]:=λw=>⟨_,zeroValue106 w,rfl⟩
def aic:fD 111 [zS0]:=λw=>⟨_,zeroValue111 w,rfl⟩
def UJ:fD 120 [zS0,zI0]:=λw=>⟨_,zeroValue120 w,rfl⟩
def UK:fD 144 [.map none]:=λw=>⟨_,zeroValue144 w,rfl⟩
def aid:fD 152 [.map none]:=λw=>⟨_,zeroValue152 w,rfl⟩
def aie:fD 156 [.nilFunc]:=λw=>⟨_,zeroValue156 w,rfl⟩
def aif:fD 158 [.nilFunc]:=λw=>⟨_,zeroValue158 w,rfl⟩
def aih:fD 161 [.pointer none]:=λw=>⟨_,zeroValue161 w,rfl⟩
def aii:fD 162 [zS0]:=λw=>⟨_,zeroValue162 w,rfl⟩
def aij:fD 163 [zS0]:=λw=>⟨_,zeroValue163 w,rfl⟩
def aik:fD 165 [zS0,zS0,zS0]:=λw=>⟨_,zeroValue165 w,rfl⟩
def UL:fD 166 [.map none]:=λw=>⟨_,zeroValue166 w,rfl⟩
def ail:fD 169 [zI0,zI0]:=λw=>⟨_,zeroValue169 w,rfl⟩
def ahy:fD 172 [.nilFunc]:=λw=>⟨_,zeroValue172 w,rfl⟩
def UM:fD 175 [zI0,zI0,zI0]:=λw=>⟨_,zeroValue175 w,rfl⟩
def ahz:fD 177 [.nilFunc]:=λw=>⟨_,zeroValue177 w,rfl⟩
def ahA:fD 178 [.int .u64 0]:=λw=>⟨_,zeroValue178 w,rfl⟩
def A9:fD 179 [zI0,zI0,zI0]:=λw=>⟨_,zeroValue179 w,rfl⟩
def ahB:fD 180 [zS0]:=λw=>⟨_,zeroValue180 w,rfl⟩
def ahC:fD 182 [.nilFunc]:=λw=>⟨_,zeroValue182 w,rfl⟩
def ahD:fD 185 [.nilFunc]:=λw=>⟨_,zeroValue185 w,rfl⟩
def ahE:fD 187 [.nilFunc]:=λw=>⟨_,zeroValue187 w,rfl⟩
def ahF:fD 188 [.nilFunc]:=λw=>⟨_,zeroValue188 w,rfl⟩
def ahG:fD 190 [.nilFunc]:=λw=>⟨_,zeroValue190 w,rfl⟩
def ahH:fD 191 [.map none]:=λw=>⟨_,zeroValue191 w,rfl⟩
def ahI:fD 208 [.map none]:=λw=>⟨_,zeroValue208 w,rfl⟩
def ahJ:fD 210 [.map none,.map none]:=λw=>⟨_,zeroValue210 w,rfl⟩
def ahK:fD 216 [.nilFunc]:=λw=>⟨_,zeroValue216 w,rfl⟩
def ahL:fD 234 [zS0]:=λw=>⟨_,zeroValue234 w,rfl⟩
def UN:fD 237 [zI0,zI0]:=λw=>⟨_,zeroValue237 w,rfl⟩
def ahM:fD 239 [.nilFunc]:=λw=>⟨_,zeroValue239 w,rfl⟩
def ahN:fD 245 [zI0]:=λw=>⟨_,zeroValue245 w,rfl⟩
def ahO:fD 252 [.int .u32 0]:=λw=>⟨_,zeroValue252 w,rfl⟩
def ahP:fD 254 [.int .u64 0]:=λw=>⟨_,zeroValue254 w,rfl⟩
def O2:dS prog 2 1 false:=⟨sizeOf2,isAgg2⟩
def om:dS prog 3 1 false:=⟨sizeOf3,isAgg3⟩
def GG:dS prog 4 1 false:=⟨sizeOf4,isAgg4⟩
def aqc:dS prog 5 1 false:=⟨sizeOf5,isAgg5⟩
def O3:dS prog 6 1 false:=⟨sizeOf6,isAgg6⟩
def aqf:dS prog 7 4 true:=⟨sizeOf7,isAgg7⟩
def ao4:lD prog 7 [zI0,zI0,.bool false,.int .u8 0] [(0,1),(1,1),(2,1),(3,1)]:=og zeroValue7 underlying7 (λw=>by kernel_rfl)
def ae6:hr prog 7 0 0:=⟨λa w=>by kernel_rfl⟩
def ae7:hr prog 7 1 1:=⟨λa w=>by kernel_rfl⟩
def ae8:hr prog 7 2 2:=⟨λa w=>by kernel_rfl⟩
def ae9:hr prog 7 3 3:=⟨λa w=>by kernel_rfl⟩
def afa:hl prog 7 0 0 1 false:=hW underlying7 (by kernel_rfl) O2 (by decide)
def afb:hl prog 7 1 1 1 false:=hW underlying7 (by kernel_rfl) om (by decide)
def afc:hl prog 7 2 2 1 false:=hW underlying7 (by kernel_rfl) GG (by decide)
def afd:hl prog 7 3 3 1 false:=hW underlying7 (by kernel_rfl) O3 (by decide)
def aqg:dS prog 8 4 true:=⟨sizeOf8,isAgg8⟩
def ao5:lD prog 8 [zI0,zI0,.bool false,.int .u8 0] [(0,1),(1,1),(2,1),(3,1)]:=og zeroValue8 underlying8 (λw=>by kernel_rfl)
def afe:hr prog 8 0 0:=⟨λa w=>by kernel_rfl⟩
def aeO:hr prog 8 1 1:=⟨λa w=>by kernel_rfl⟩
def aeP:hr prog 8 2 2:=⟨λa w=>by kernel_rfl⟩
def aeQ:hr prog 8 3 3:=⟨λa w=>by kernel_rfl⟩
def aeR:hl prog 8 0 0 1 false:=hW underlying8 (by kernel_rfl) O2 (by decide)
def aeS:hl prog 8 1 1 1 false:=hW underlying8 (by kernel_rfl) om (by decide)
def aeT:hl prog 8 2 2 1 false:=hW underlying8 (by kernel_rfl) GG (by decide)
def aeU:hl prog 8 3 3 1 false:=hW underlying8 (by kernel_rfl) O3 (by decide)
def O4:dS prog 9 1 false:=⟨sizeOf9,isAgg9⟩
def apV:dS prog 10 1 false:=⟨sizeOf10,isAgg10⟩
def apW:dS prog 11 1 false:=⟨sizeOf11,isAgg11⟩
def Mp:dS prog 12 1 false:=⟨sizeOf12,isAgg12⟩
def apX:dS prog 13 2 true:=⟨sizeOf13,isAgg13⟩
def ahQ:lD prog 13 [.string ⟨#[]⟩,.int .u64 0] [(0,1),(1,1)]:=og zeroValue13 underlying13 (λw=>by kernel_rfl)
def adm:hr prog 13 0 0:=⟨λa w=>by kernel_rfl⟩
def adn:hr prog 13 1 1:=⟨λa w=>by kernel_rfl⟩
def ado:hl prog 13 0 0 1 false:=hW underlying13 (by kernel_rfl) O4 (by decide)
def adp:hl prog 13 1 1 1 false:=hW underlying13 (by kernel_rfl) Mp (by decide)
def apY:dS prog 14 2 true:=⟨sizeOf14,isAgg14⟩
def ahR:lD prog 14 [.string ⟨#[]⟩,.int .u64 0] [(0,1),(1,1)]:=og zeroValue14 underlying14 (λw=>by kernel_rfl)
def adq:hr prog 14 0 0:=⟨λa w=>by kernel_rfl⟩
def adr:hr prog 14 1 1:=⟨λa w=>by kernel_rfl⟩
def ads:hl prog 14 0 0 1 false:=hW underlying14 (by kernel_rfl) O4 (by decide)
def adt:hl prog 14 1 1 1 false:=hW underlying14 (by kernel_rfl) Mp (by decide)
def apZ:dS prog 15 1 false:=⟨sizeOf15,isAgg15⟩
def ap0:dS prog 16 1 false:=⟨sizeOf16,isAgg16⟩
def Mq:dS prog 17 1 false:=⟨sizeOf17,isAgg17⟩
def ap1:dS prog 18 1 true:=⟨sizeOf18,isAgg18⟩
def ahS:lD prog 18 [.pointer none] [(0,1)]:=og zeroValue18 underlying18 (λw=>by kernel_rfl)
def adu:hr prog 18 0 0:=⟨λa w=>by kernel_rfl⟩
def adv:hl prog 18 0 0 1 false:=hW underlying18 (by kernel_rfl) Mq (by decide)
def ap2:dS prog 19 1 true:=⟨sizeOf19,isAgg19⟩
def ahT:lD prog 19 [.pointer none] [(0,1)]:=og zeroValue19 underlying19 (λw=>by kernel_rfl)
def adw:hr prog 19 0 0:=⟨λa w=>by kernel_rfl⟩
def adx:hl prog 19 0 0 1 false:=hW underlying19 (by kernel_rfl) Mq (by decide)
def ap3:dS prog 21 1 false:=⟨sizeOf21,isAgg21⟩
def Bz:dS prog 22 1 false:=⟨sizeOf22,isAgg22⟩
def aoU:lT prog 22 3 1:=⟨underlying22,sizeOf3⟩
def HD:kO prog 22 3 1 8:=⟨underlying22,(by obtain⟨i,h1,D,aq,aZ⟩:=info_parts (by kernel_rfl:(prog.info? 3).map (λi=>(i.zero,i.size,i.bytes))=some (some (zI0),1,8));exact⟨i,_,h1,D,aq,aZ,rfl⟩),by decide⟩
def UO:nA prog 22 3 1 [zI0]:=⟨underlying22,sizeOf3,Zn,rfl⟩
def ap4:dS prog 23 1 false:=⟨sizeOf23,isAgg23⟩
def Mr:dS prog 25 1 false:=⟨sizeOf25,isAgg25⟩
def aoV:lT prog 25 31 2:=⟨underlying25,sizeOf31⟩
def ahU:kO prog 25 31 2 16:=⟨underlying25,(by obtain⟨i,h1,D,aq,aZ⟩:=info_parts (by kernel_rfl:(prog.info? 31).map (λi=>(i.zero,i.size,i.bytes))=some (some (.agg #[zI0,.bool false]),2,16));exact⟨i,_,h1,D,aq,aZ,rfl⟩),by decide⟩
def ahV:nA prog 25 31 2 [zI0,.bool false]:=⟨underlying25,sizeOf31,Vr,rfl⟩
def MG:dS prog 26 1 false:=⟨sizeOf26,isAgg26⟩
def aoW:lT prog 26 62 5:=⟨underlying26,sizeOf62⟩
def ahW:kO prog 26 62 5 40:=⟨underlying26,(by obtain⟨i,h1,D,aq,aZ⟩:=info_parts (by kernel_rfl:(prog.info? 62).map (λi=>(i.zero,i.size,i.bytes))=some (some (.agg #[zI0,zI0,zI0,zI0,zI0]),5,40));exact⟨i,_,h1,D,aq,aZ,rfl⟩),by decide⟩
def ahX:nA prog 26 62 5 [zI0,zI0,zI0,zI0,zI0]:=⟨underlying26,sizeOf62,Vs,rfl⟩
def ap5:dS prog 27 2 true:=⟨sizeOf27,isAgg27⟩
def aho:lD prog 27 [zS0,zS0] [(0,1),(1,1)]:=og zeroValue27 underlying27 (λw=>by kernel_rfl)
def ady:hr prog 27 0 0:=⟨λa w=>by kernel_rfl⟩
def adz:hr prog 27 1 1:=⟨λa w=>by kernel_rfl⟩
def adA:hl prog 27 0 0 1 false:=hW underlying27 (by kernel_rfl) Mr (by decide)
def adB:hl prog 27 1 1 1 false:=hW underlying27 (by kernel_rfl) MG (by decide)
def ap6:dS prog 28 2 true:=⟨sizeOf28,isAgg28⟩
def ahp:lD prog 28 [zS0,zS0] [(0,1),(1,1)]:=og zeroValue28 underlying28 (λw=>by kernel_rfl)
def adC:hr prog 28 0 0:=⟨λa w=>by kernel_rfl⟩
def adD:hr prog 28 1 1:=⟨λa w=>by kernel_rfl⟩
def adE:hl prog 28 0 0 1 false:=hW underlying28 (by kernel_rfl) Mr (by decide)
def ac4:hl prog 28 1 1 1 false:=hW underlying28 (by kernel_rfl) MG (by decide)
def ap7:dS prog 30 2 true:=⟨sizeOf30,isAgg30⟩
def ahq:lD prog 30 [zI0,.bool false] [(0,1),(1,1)]:=og zeroValue30 underlying30 (λw=>by kernel_rfl)
def ac5:hr prog 30 0 0:=⟨λa w=>by kernel_rfl⟩
def ac6:hr prog 30 1 1:=⟨λa w=>by kernel_rfl⟩
def ac7:hl prog 30 0 0 1 false:=hW underlying30 (by kernel_rfl) om (by decide)
def ac8:hl prog 30 1 1 1 false:=hW underlying30 (by kernel_rfl) GG (by decide)
def ap8:dS prog 31 2 true:=⟨sizeOf31,isAgg31⟩
def ahr:lD prog 31 [zI0,.bool false] [(0,1),(1,1)]:=og zeroValue31 underlying31 (λw=>by kernel_rfl)
def ac9:hr prog 31 0 0:=⟨λa w=>by kernel_rfl⟩
def ada:hr prog 31 1 1:=⟨λa w=>by kernel_rfl⟩
def adb:hl prog 31 0 0 1 false:=hW underlying31 (by kernel_rfl) om (by decide)
def ade:hl prog 31 1 1 1 false:=hW underlying31 (by kernel_rfl) GG (by decide)
def MH:dS prog 34 1 false:=⟨sizeOf34,isAgg34⟩
def aoX:lT prog 34 84 2:=⟨underlying34,sizeOf84⟩
def UP:kO prog 34 84 2 16:=⟨underlying34,(by obtain⟨i,h1,D,aq,aZ⟩:=info_parts (by kernel_rfl:(prog.info? 84).map (λi=>(i.zero,i.size,i.bytes))=some (some (.agg #[zI0,zI0]),2,16));exact⟨i,_,h1,D,aq,aZ,rfl⟩),by decide⟩
def ahs:nA prog 34 84 2 [zI0,zI0]:=⟨underlying34,sizeOf84,Vt,rfl⟩
def ap9:dS prog 35 2 true:=⟨sizeOf35,isAgg35⟩
def aht:lD prog 35 [zI0,zS0] [(0,1),(1,1)]:=og zeroValue35 underlying35 (λw=>by kernel_rfl)
def adf:hr prog 35 0 0:=⟨λa w=>by kernel_rfl⟩
def aeo:hr prog 35 1 1:=⟨λa w=>by kernel_rfl⟩
def aep:hl prog 35 0 0 1 false:=hW underlying35 (by kernel_rfl) om (by decide)
def aeq:hl prog 35 1 1 1 false:=hW underlying35 (by kernel_rfl) MH (by decide)
def aqa:dS prog 36 2 true:=⟨sizeOf36,isAgg36⟩
def ahu:lD prog 36 [zI0,zS0] [(0,1),(1,1)]:=og zeroValue36 underlying36 (λw=>by kernel_rfl)
def aer:hr prog 36 0 0:=⟨λa w=>by kernel_rfl⟩
def aes:hr prog 36 1 1:=⟨λa w=>by kernel_rfl⟩
def aet:hl prog 36 0 0 1 false:=hW underlying36 (by kernel_rfl) om (by decide)
def aeu:hl prog 36 1 1 1 false:=hW underlying36 (by kernel_rfl) MH (by decide)
def aqb:dS prog 37 1 false:=⟨sizeOf37,isAgg37⟩
def aqd:dS prog 62 5 true:=⟨sizeOf62,isAgg62⟩
def ahv:lD prog 62 [zI0,zI0,zI0,zI0,zI0] [(0,1),(1,1),(2,1),(3,1),(4,1)]:=og zeroValue62 underlying62 (λw=>by kernel_rfl)
def aev:hr prog 62 0 0:=⟨λa w=>by kernel_rfl⟩
def aew:hr prog 62 1 1:=⟨λa w=>by kernel_rfl⟩
def aex:hr prog 62 2 2:=⟨λa w=>by kernel_rfl⟩
def aey:hr prog 62 3 3:=⟨λa w=>by kernel_rfl⟩
def aez:hr prog 62 4 4:=⟨λa w=>by kernel_rfl⟩
def aeA:hl prog 62 0 0 1 false:=hW underlying62 (by kernel_rfl) om (by decide)
def aeB:hl prog 62 1 1 1 false:=hW underlying62 (by kernel_rfl) om (by decide)
def aeC:hl prog 62 2 2 1 false:=hW underlying62 (by kernel_rfl) om (by decide)
def aeD:hl prog 62 3 3 1 false:=hW underlying62 (by kernel_rfl) om (by decide)
def aeE:hl prog 62 4 4 1 false:=hW underlying62 (by kernel_rfl) om (by decide)
def aqe:dS prog 63 1 false:=⟨sizeOf63,isAgg63⟩
def Vn:dS prog 84 2 true:=⟨sizeOf84,isAgg84⟩
def ahw:lD prog 84 [zI0,zI0] [(0,1),(1,1)]:=og zeroValue84 underlying84 (λw=>by kernel_rfl)
def aeF:hr prog 84 0 0:=⟨λa w=>by kernel_rfl⟩
def aeG:hr prog 84 1 1:=⟨λa w=>by kernel_rfl⟩
def aeH:hl prog 84 0 0 1 false:=hW underlying84 (by kernel_rfl) om (by decide)
def aeI:hl prog 84 1 1 1 false:=hW underlying84 (by kernel_rfl) om (by decide)
def ahx(a0 vo:Int)(iM ec:Int)(w:World):(Op.eqFields 9999 #[.int .i64 a0,.int .i64 iM] #[.int .i64 vo,.int .i64 ec] (prog.fieldsOf 84).toList).run prog w=.ok (decide (a0=vo)&&(decide (iM=ec)&&true)) w:=by
 have bA:(prog.fieldsOf 84).toList.map (λf=>(f.name== "_",f.type,f.offset))=[(false,3,0),(false,3,1)]:=by kernel_rfl
 have q:(Op.eqFields 9999 #[.int .i64 a0,.int .i64 iM] #[.int .i64 vo,.int .i64 ec] (prog.fieldsOf 84).toList).run prog w=.ok (decide (a0=vo)&&(decide (iM=ec)&&true)) w:=by
  obtain⟨f0,t0,l0,bJ,bA⟩:=Y2 bA;obtain⟨f1,t1,aK,h1,bA⟩:=Y2 bA;rw[l0,aK,aas bA];exact SM bJ isAgg3 underlying3 rfl rfl (SM h1 isAgg3 underlying3 rfl rfl (adi))
 exact q
def aqh:dS prog 85 1 false:=⟨sizeOf85,isAgg85⟩
def aoY:lT prog 85 120 2:=⟨underlying85,sizeOf120⟩
def aiX:kO prog 85 120 2 32:=⟨underlying85,(by obtain⟨i,h1,D,aq,aZ⟩:=info_parts (by kernel_rfl:(prog.info? 120).map (λi=>(i.zero,i.size,i.bytes))=some (some (.agg #[zS0,zI0]),2,32));exact⟨i,_,h1,D,aq,aZ,rfl⟩),by decide⟩
def aiY:nA prog 85 120 2 [zS0,zI0]:=⟨underlying85,sizeOf120,UJ,rfl⟩
def aqi:dS prog 98 1 false:=⟨sizeOf98,isAgg98⟩
def aoZ:lT prog 98 85 1:=⟨underlying98,sizeOf85⟩
def ai0:kO prog 98 85 1 24:=⟨underlying98,(by obtain⟨i,h1,D,aq,aZ⟩:=info_parts (by kernel_rfl:(prog.info? 85).map (λi=>(i.zero,i.size,i.bytes))=some (some (zS0),1,24));exact⟨i,_,h1,D,aq,aZ,rfl⟩),by decide⟩
def ai1:nA prog 98 85 1 [zS0]:=⟨underlying98,sizeOf85,Vu,rfl⟩
def ai2:dS prog 103 2 true:=⟨sizeOf103,isAgg103⟩
def aeV:lD prog 103 [zS0,zI0] [(0,1),(1,1)]:=og zeroValue103 underlying103 (λw=>by kernel_rfl)
def abO:hr prog 103 0 0:=⟨λa w=>by kernel_rfl⟩
def abP:hr prog 103 1 1:=⟨λa w=>by kernel_rfl⟩
def abQ:hl prog 103 0 0 1 false:=hW underlying103 (by kernel_rfl) Bz (by decide)
def abR:hl prog 103 1 1 1 false:=hW underlying103 (by kernel_rfl) om (by decide)
def ai3:dS prog 105 1 false:=⟨sizeOf105,isAgg105⟩
def y1:lT prog 105 106 1:=⟨underlying105,sizeOf106⟩
def To:kO prog 105 106 1 24:=⟨underlying105,(by obtain⟨i,h1,D,aq,aZ⟩:=info_parts (by kernel_rfl:(prog.info? 106).map (λi=>(i.zero,i.size,i.bytes))=some (some (zS0),1,24));exact⟨i,_,h1,D,aq,aZ,rfl⟩),by decide⟩
def Tp:nA prog 105 106 1 [zS0]:=⟨underlying105,sizeOf106,UI,rfl⟩
def G9:dS prog 106 1 false:=⟨sizeOf106,isAgg106⟩
def ai4:lT prog 106 4 1:=⟨underlying106,sizeOf4⟩
def Tq:kO prog 106 4 1 1:=⟨underlying106,(by obtain⟨i,h1,D,aq,aZ⟩:=info_parts (by kernel_rfl:(prog.info? 4).map (λi=>(i.zero,i.size,i.bytes))=some (some (.bool false),1,1));exact⟨i,_,h1,D,aq,aZ,rfl⟩),by decide⟩
def Tr:nA prog 106 4 1 [.bool false]:=⟨underlying106,sizeOf4,Zo,rfl⟩
def UQ:dS prog 111 1 false:=⟨sizeOf111,isAgg111⟩
def ai5:lT prog 111 175 3:=⟨underlying111,sizeOf175⟩
def aeW:kO prog 111 175 3 24:=⟨underlying111,(by obtain⟨i,h1,D,aq,aZ⟩:=info_parts (by kernel_rfl:(prog.info? 175).map (λi=>(i.zero,i.size,i.bytes))=some (some (.agg #[zI0,zI0,zI0]),3,24));exact⟨i,_,h1,D,aq,aZ,rfl⟩),by decide⟩
def afX:nA prog 111 175 3 [zI0,zI0,zI0]:=⟨underlying111,sizeOf175,UM,rfl⟩
def ai6:dS prog 120 2 true:=⟨sizeOf120,isAgg120⟩
def afY:lD prog 120 [zS0,zI0] [(0,1),(1,1)]:=og zeroValue120 underlying120 (λw=>by kernel_rfl)
def abS:hr prog 120 0 0:=⟨λa w=>by kernel_rfl⟩
def abT:hr prog 120 1 1:=⟨λa w=>by kernel_rfl⟩
def abU:hl prog 120 0 0 1 false:=hW underlying120 (by kernel_rfl) Bz (by decide)
def abV:hl prog 120 1 1 1 false:=hW underlying120 (by kernel_rfl) om (by decide)
def DM:dS prog 144 1 false:=⟨sizeOf144,isAgg144⟩
def o4:k4 prog 144 3 3 .i64:=⟨underlying144,underlying3⟩
def ai7:dS prog 152 1 false:=⟨sizeOf152,isAgg152⟩
def ai8:dS prog 156 1 false:=⟨sizeOf156,isAgg156⟩
def ai9:dS prog 158 1 false:=⟨sizeOf158,isAgg158⟩
def aja:dS prog 161 1 false:=⟨sizeOf161,isAgg161⟩
def UR:dS prog 162 1 false:=⟨sizeOf162,isAgg162⟩
def DN:lT prog 162 144 1:=⟨underlying162,sizeOf144⟩
def Ts:kO prog 162 144 1 8:=⟨underlying162,(by obtain⟨i,h1,D,aq,aZ⟩:=info_parts (by kernel_rfl:(prog.info? 144).map (λi=>(i.zero,i.size,i.bytes))=some (some (.map none),1,8));exact⟨i,_,h1,D,aq,aZ,rfl⟩),by decide⟩
def afZ:nA prog 162 144 1 [.map none]:=⟨underlying162,sizeOf144,UK,rfl⟩
def US:dS prog 163 1 false:=⟨sizeOf163,isAgg163⟩
def UT:lT prog 163 166 1:=⟨underlying163,sizeOf166⟩
def Tt:kO prog 163 166 1 8:=⟨underlying163,(by obtain⟨i,h1,D,aq,aZ⟩:=info_parts (by kernel_rfl:(prog.info? 166).map (λi=>(i.zero,i.size,i.bytes))=some (some (.map none),1,8));exact⟨i,_,h1,D,aq,aZ,rfl⟩),by decide⟩
def af0:nA prog 163 166 1 [.map none]:=⟨underlying163,sizeOf166,UL,rfl⟩
def ajb:dS prog 165 3 true:=⟨sizeOf165,isAgg165⟩
def af1:lD prog 165 [zS0,zS0,zS0] [(0,1),(1,1),(2,1)]:=og zeroValue165 underlying165 (λw=>by kernel_rfl)
def abW:hr prog 165 0 0:=⟨λa w=>by kernel_rfl⟩
def abX:hr prog 165 1 1:=⟨λa w=>by kernel_rfl⟩
def abY:hr prog 165 2 2:=⟨λa w=>by kernel_rfl⟩
def abZ:hl prog 165 0 0 1 false:=hW underlying165 (by kernel_rfl) UQ (by decide)
def ab0:hl prog 165 1 1 1 false:=hW underlying165 (by kernel_rfl) UR (by decide)
def ab1:hl prog 165 2 2 1 false:=hW underlying165 (by kernel_rfl) US (by decide)
def UU:dS prog 166 1 false:=⟨sizeOf166,isAgg166⟩
def GX:k4 prog 166 3 169 .i64:=⟨underlying166,underlying3⟩
def ajc:dS prog 169 2 true:=⟨sizeOf169,isAgg169⟩
def af2:lD prog 169 [zI0,zI0] [(0,1),(1,1)]:=og zeroValue169 underlying169 (λw=>by kernel_rfl)
def ab2:hr prog 169 0 0:=⟨λa w=>by kernel_rfl⟩
def ab3:hr prog 169 1 1:=⟨λa w=>by kernel_rfl⟩
def ab4:hl prog 169 0 0 1 false:=hW underlying169 (by kernel_rfl) om (by decide)
def ab5:hl prog 169 1 1 1 false:=hW underlying169 (by kernel_rfl) om (by decide)
def ajd:dS prog 172 1 false:=⟨sizeOf172,isAgg172⟩
def aje:dS prog 175 3 true:=⟨sizeOf175,isAgg175⟩
def af3:lD prog 175 [zI0,zI0,zI0] [(0,2),(2,1)]:=og zeroValue175 underlying175 (λw=>by kernel_rfl)
def ab6:hr prog 175 0 0:=⟨λa w=>by kernel_rfl⟩
def ab7:hr prog 175 1 2:=⟨λa w=>by kernel_rfl⟩
def ab8:hl prog 175 0 0 2 true:=hW underlying175 (by kernel_rfl) Vn (by decide)
def ab9:hl prog 175 1 2 1 false:=hW underlying175 (by kernel_rfl) om (by decide)
def ajf:dS prog 177 1 false:=⟨sizeOf177,isAgg177⟩
def ajg:dS prog 178 1 false:=⟨sizeOf178,isAgg178⟩
def ajh:dS prog 179 3 true:=⟨sizeOf179,isAgg179⟩
def aji:dS prog 180 1 false:=⟨sizeOf180,isAgg180⟩
def ajj:lT prog 180 179 3:=⟨underlying180,sizeOf179⟩
def af4:kO prog 180 179 3 24:=⟨underlying180,(by obtain⟨i,h1,D,aq,aZ⟩:=info_parts (by kernel_rfl:(prog.info? 179).map (λi=>(i.zero,i.size,i.bytes))=some (some (.agg #[zI0,zI0,zI0]),3,24));exact⟨i,_,h1,D,aq,aZ,rfl⟩),by decide⟩
def af5:nA prog 180 179 3 [zI0,zI0,zI0]:=⟨underlying180,sizeOf179,A9,rfl⟩
def ajk:dS prog 182 1 false:=⟨sizeOf182,isAgg182⟩
def ajl:dS prog 185 1 false:=⟨sizeOf185,isAgg185⟩
def aix:dS prog 187 1 false:=⟨sizeOf187,isAgg187⟩
def aiy:dS prog 188 1 false:=⟨sizeOf188,isAgg188⟩
def aiz:dS prog 190 1 false:=⟨sizeOf190,isAgg190⟩
def aiA:dS prog 191 1 false:=⟨sizeOf191,isAgg191⟩
def Tu:k4 prog 191 3 4 .i64:=⟨underlying191,underlying3⟩
def Md:dS prog 208 1 false:=⟨sizeOf208,isAgg208⟩
def p7:k4 prog 208 3 234 .i64:=⟨underlying208,underlying3⟩
def aiB:dS prog 210 2 true:=⟨sizeOf210,isAgg210⟩
def af6:lD prog 210 [.map none,.map none] [(0,1),(1,1)]:=og zeroValue210 underlying210 (λw=>by kernel_rfl)
def acc:hr prog 210 0 0:=⟨λa w=>by kernel_rfl⟩
def abx:hr prog 210 1 1:=⟨λa w=>by kernel_rfl⟩
def aby:hl prog 210 0 0 1 false:=hW underlying210 (by kernel_rfl) Md (by decide)
def abz:hl prog 210 1 1 1 false:=hW underlying210 (by kernel_rfl) Md (by decide)
def aiC:dS prog 216 1 false:=⟨sizeOf216,isAgg216⟩
def aiD:dS prog 234 1 false:=⟨sizeOf234,isAgg234⟩
def aiE:lT prog 234 237 2:=⟨underlying234,sizeOf237⟩
def af7:kO prog 234 237 2 16:=⟨underlying234,(by obtain⟨i,h1,D,aq,aZ⟩:=info_parts (by kernel_rfl:(prog.info? 237).map (λi=>(i.zero,i.size,i.bytes))=some (some (.agg #[zI0,zI0]),2,16));exact⟨i,_,h1,D,aq,aZ,rfl⟩),by decide⟩
def af8:nA prog 234 237 2 [zI0,zI0]:=⟨underlying234,sizeOf237,UN,rfl⟩
def aiF:dS prog 237 2 true:=⟨sizeOf237,isAgg237⟩
def af9:lD prog 237 [zI0,zI0] [(0,1),(1,1)]:=og zeroValue237 underlying237 (λw=>by kernel_rfl)
def abA:hr prog 237 0 0:=⟨λa w=>by kernel_rfl⟩
def abB:hr prog 237 1 1:=⟨λa w=>by kernel_rfl⟩
def abC:hl prog 237 0 0 1 false:=hW underlying237 (by kernel_rfl) om (by decide)
def abD:hl prog 237 1 1 1 false:=hW underlying237 (by kernel_rfl) om (by decide)
def aiG:dS prog 239 1 false:=⟨sizeOf239,isAgg239⟩
def aiH:dS prog 245 1 false:=⟨sizeOf245,isAgg245⟩
def aiI:dS prog 252 1 false:=⟨sizeOf252,isAgg252⟩
def aiJ:dS prog 254 1 false:=⟨sizeOf254,isAgg254⟩
end
end Go.Proofs.YtmnbolcmepihlaaGreat
