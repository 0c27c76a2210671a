/- Several texts in one. No condition but those that stand in each. -/
import Derived.Test.YtmnbolcmepihlaaGreatAA
import Derived.Sort.Grow
import Derived.Laws.StructEq
namespace Go.Proofs.YtmnbolcmepihlaaGreat
set_option linter.all false
open Go
def ai.find:ai→Nat→Option U
 |[],_=>none
 |(k,v)::r,n=>bif Nat.beq k n then some v else ai.find r n
theorem ai.oy:∀{env:ai} {t:Nat} {a:U},env.find t=some a→env.get t=a
 |[],_,_,h=>by simp[ai.find]at h
 |(k,v)::r,t,a,h=>by
  simp only[ai.find]at h;simp only[ai.get];cases hk:Nat.beq k t<;>rw[hk]at h
  ·exact ai.oy (env:=r) h
  ·simpa using h
def ai.cz(env:ai):Operand→Option U
 |.tmp t=>env.find t
 |.const (.int k n)=>some (.int k n)
 |.const (.bool b)=>some (.bool b)
 |.const (.string s)=>some (.str s)
 |.const (.slice none 0 0)=>some .cV
 |.const v=>some (kT v)
 |.func f=>some (.fn f [])
 |.global _=>none
theorem ai.b5{env:ai}{x:Operand}{a:U}(h:env.cz x=some a):env.ev x=a:=by
 unfold ai.cz at h;split at h<;>first|exact ai.oy h|(simp only[ai.ev,kT];simpa using h)|(simp only[ai.ev];simpa using h)|cases h
def ai.nI(env:ai):List Operand→Option (List U)
 |[]=>some []
 |x::r=>match env.cz x with
  |none=>none
  |some a=>match ai.nI env r with
   |none=>none
   |some l=>some (a::l)
theorem ai.v7{env:ai}:∀{xs:List Operand} {l:List U},env.nI xs=some l→xs.map env.ev=l
 |[],l,h=>by simpa [ai.nI]using h
 |x::r,l,h=>by
  simp only[ai.nI]at h;cases h1:env.cz x with
  |none=>rw[h1]at h;cases h
  |some a=>
   rw[h1]at h;simp only at h;cases D:ai.nI env r with
   |none=>rw[D]at h;cases h
   |some js=>
    rw[D]at h;simp only[Option.some.injEq]at h;subst h;simp[ai.b5 h1,ai.v7 D]
def ai.rA(env:ai):List (Nat×Operand)→Option (List (Nat×U))
 |[]=>some []
 |(i,x)::r=>match env.cz x with
  |none=>none
  |some a=>match ai.rA env r with
   |none=>none
   |some l=>some ((i,a)::l)
theorem ai.z7{env:ai}:∀{xs:List (Nat×Operand)} {l:List (Nat×U)},env.rA xs=some l→xs.map (λp=>(p.1,env.ev p.2))=l
 |[],l,h=>by simpa [ai.rA]using h
 |(i,x)::r,l,h=>by
  simp only[ai.rA]at h;cases h1:env.cz x with
  |none=>rw[h1]at h;cases h
  |some a=>
   rw[h1]at h;simp only at h;cases D:ai.rA env r with
   |none=>rw[D]at h;cases h
   |some js=>
    rw[D]at h;simp only[Option.some.injEq]at h;subst h;simp[ai.b5 h1,ai.z7 D]
def el{α:Type}[Inhabited α](l:List α)(i:Int):α:=l.getD i.toNat default
def spine{α:Type}:List α→Option (List α)
 |[]=>some []
 |x::r=>match spine r with
  |none=>none
  |some l=>some (x::l)
theorem tb{α:Type}:∀{xs l:List α},spine xs=some l→xs=l
 |[],l,h=>by simpa [spine]using h
 |x::r,l,h=>by
  simp only[spine]at h;cases D:spine r with
  |none=>rw[D]at h;cases h
  |some js=>
   rw[D]at h;simp only[Option.some.injEq]at h;rw[←h,tb D]
def q2:U→Option (List U)
 |.agg cs=>spine cs
 |a=>some [a]
theorem zN{a:U}{cs:List U}(h:q2 a=some cs):nW a=cs:=by
 unfold q2 at h;split at h
 ·exact tb h
 ·rename_i ct;simp only[Option.some.injEq]at h;rw[←h];cases a<;>first|rfl|exact absurd rfl (ct _)
def nK(dr:Bool)(n:Nat)(cs:List U):Option U:=
 match dr with
 |true=>match spine (cs.take n)with
  |none=>none
  |some l=>some (.agg l)
 |false=>match cs with
  |[]=>none
  |x::_=>some x
theorem Ds{dr:Bool}{n:Nat}{cs:List U}{a:U}(h:nK dr n cs=some a):nL dr n cs=a:=by
 cases dr with
 |true=>
  simp only[nK]at h;cases D:spine (cs.take n)with
  |none=>rw[D]at h;cases h
  |some l=>
   rw[D]at h;simp only[Option.some.injEq]at h;rw[←h,←tb D];rfl
 |false=>
  cases cs with
  |nil=>simp[nK]at h
  |cons x r=>simp only[nK,Option.some.injEq]at h;rw[←h];rfl
def yw(fe:List (Nat×Nat))(cells:List U):List (Nat×U)→Option (List U)
 |[]=>spine cells
 |(i,a)::hy=>match fe[i]? with
  |none=>none
  |some (off,size)=>match q2 a with
   |none=>none
   |some ca=>bif Nat.beq ca.length size&&Nat.ble (off+ca.length) cells.length&&a.flat then
     (match spine (iw cells off ca)with
     |none=>none
     |some l=>yw fe l hy)else none
theorem Ny(fe:List (Nat×Nat)):∀{parts:List (Nat×U)} {cells out:List U},yw fe cells parts=some out→wD fe cells parts=some out
 |[],cells,out,h=>by simp only[yw]at h;simp only[wD];rw[tb h]
 |(i,a)::hy,cells,out,h=>by
  simp only[yw]at h;simp only[wD];cases aB:fe[i]? with
  |none=>rw[aB]at h;cases h
  |some os=>
   obtain⟨off,size⟩:=os;rw[aB]at h;simp only at h ⊢;cases aa:q2 a with
   |none=>rw[aa]at h;cases h
   |some ca=>
    rw[aa]at h;simp only at h;rw[zN aa];cases V:(Nat.beq ca.length size&&Nat.ble (off+ca.length) cells.length&&a.flat)with
    |false=>rw[V]at h;simp at h
    |true=>
     rw[V]at h;simp only[cond_true]at h ⊢;cases W:spine (iw cells off ca)with
     |none=>rw[W]at h;cases h
     |some l=>
      rw[W]at h;simp only at h;rw[tb W];exact Ny fe h
def ur(sz:Nat):Nat→List (Nat×U)→Option (List (List U))
 |_,[]=>some []
 |k,(i,a)::r=>match q2 a with
  |none=>none
  |some ca=>bif Nat.beq i k&&Nat.beq ca.length sz&&a.flat then
    (match ur sz (k+1) r with
    |none=>none
    |some l=>some (ca::l))else none
theorem CJ(sz:Nat):∀{parts:List (Nat×U)} {k:Nat} {out:List (List U)},ur sz k parts=some out→tf sz k parts=some out
 |[],k,out,h=>by simpa [ur,tf]using h
 |(i,a)::r,k,out,h=>by
  simp only[ur]at h;simp only[tf];cases aa:q2 a with
  |none=>rw[aa]at h;cases h
  |some ca=>
   rw[aa]at h;simp only at h;rw[zN aa];cases V:(Nat.beq i k&&Nat.beq ca.length sz&&a.flat)with
   |false=>rw[V]at h;simp at h
   |true=>
    rw[V]at h;simp only[cond_true]at h ⊢;cases be:ur sz (k+1) r with
    |none=>rw[be]at h;cases h
    |some l=>
     rw[be]at h;simp only[Option.some.injEq]at h;rw[CJ sz be,←h];rfl
def qn(σ:Y):Y→Prop
 |[]=>True
 |(d,o)::r=>σ.get d=some o∧qn σ r
theorem qn.mem{σ:Y}:∀{σ2:Y},qn σ σ2→∀p∈σ2,σ.get p.1=some p.2
 |[],_,p,h=>by simp at h
 |(d,o)::r,h,p,aB=>by
  rcases List.mem_cons.1 aB with rfl|aB
  ·exact h.1
  ·exact qn.mem h.2 p aB
def v8(σ:Y)(env:ai):ai→Prop
 |[]=>True
 |(k,v)::r=>hP σ (env.get k) v∧v8 σ env r
theorem v8.mem{σ:Y}{env:ai}:∀{dx:ai},v8 σ env dx→∀p∈dx,hP σ (env.get p.1) p.2
 |[],_,p,h=>by simp at h
 |(d,o)::r,h,p,aB=>by
  rcases List.mem_cons.1 aB with rfl|aB
  ·exact h.1
  ·exact v8.mem h.2 p aB
def GV(env:ai):ai→Prop
 |[]=>True
 |(k,v)::r=>env.find k=some v∧GV env r
theorem GV.Hl{σ:Y}{env:ai}:∀{dx:ai},GV env dx→v8 σ env dx
 |[],_=>trivial
 |(k,v)::r,h=>⟨by rw[ai.oy h.1];exact .refl _,GV.Hl h.2⟩
theorem hP.of_eq{σ:Y}{a b:U}(h:a=b):hP σ a b:=by subst h;exact .refl _
theorem b8.back{G:cq}{env dx:ai}{σ σ2:Y}(r s:Nat→Nat)(he:v8 σ env (dx.cH s))(W:qn σ (σ2.cH s))(iP:ys r s G.ids (dx.cH s) (σ2.cH s)=true)(h1:(dx.cH s).cH r=dx)(D:(σ2.cH s).cH r=σ2):b8 G env σ dx σ2:=by
 have:=(b8.drop (G:=G) he.mem W.mem).trans (b8.cH r s iP)
 rwa [h1,D]at this
section rules
variable {G:cq}{env:ai}{σ:Y}{Q:Exit→ai→Y→Prop}{x y c:Code}
theorem b8.of{dx:ai}{σ2:Y}(he:v8 σ env dx)(W:qn σ σ2):b8 G env σ dx σ2:=b8.drop he.mem W.mem
end rules
section steps
variable {G:cq}{ops:Array Oper}{s:jT}{log:List (Nat×List Nat)}{i:Nat}{l:List Nat}{env:ai}{σ:Y}{K:ai→Y→Prop}{o:Oper}{bE:U}
end steps
section ops
variable {G:cq}{o:Oper}{env:ai}{σ:Y}{a:U}
theorem bW.move{x:Operand}(h:o.op=.move x)(u:env.cz x=some a):Yields G o env.ev σ [] [] a:=by rw[←ai.b5 u];exact bG.move h
theorem bW.assign{x:Operand}(h:o.op=.assign x)(u:env.cz x=some a):Yields G o env.ev σ [] [] a:=by rw[←ai.b5 u];exact bG.assign h
theorem bW.HS{c x y:Operand}{p:Bool}(h:o.op=.pick c x y)(aa:env.ev c=.bool p)(aB:p=true)(u:env.cz x=some a):Yields G o env.ev σ [] [] a:=by rw[←ai.b5 u];exact bG.HS h aa aB
theorem bW.HT{c x y:Operand}{p:Bool}(h:o.op=.pick c x y)(aa:env.ev c=.bool p)(aB:p=false)(u:env.cz y=some a):Yields G o env.ev σ [] [] a:=by rw[←ai.b5 u];exact bG.HT h aa aB
theorem bW.alloc{T d:Nat}{zs:List Value}{cs:List U}(h:o.op=.alloc T)(hz:∀w,∃z,(zeroValue T).run G.P w=.ok z w∧z.cells=zs.toArray)(aa:qe zs=cs)(hi:G.ids.contains d=false):
  Yields G o env.ev ((d,.cells T cs)::σ) [d] [d] (.ptr d 0):=by subst aa;exact bG.alloc h hz hi
theorem bW.box{T d:Nat}{x:Operand}{cs:List U}(h:o.op=.box T x)(u:env.cz x=some a)(be:a.flat=true)(aa:q2 a=some cs)(ax:a.refs (Nat.beq d)=false)(hi:G.ids.contains d=false):
  Yields G o env.ev ((d,.cells T cs)::σ) [d] [d] (.ptr d 0):=bG.box h (ai.b5 u) be (zN aa) ax hi
theorem bW.Ig{T aW:TypeId}{x:Operand}{n d p:Nat}{dr:Bool}{cs:List U}(h:o.op=.load T x)(u:env.ev x=.ptr d p)(aH:dM G.P T n dr)(Z:σ.get d=some (.cells aW cs))(bJ:(dr||Nat.blt 0 n)=true)(aT:Nat.ble (p+n) cs.length=true)(aC:nK dr n (cs.drop p)=some a):
  Yields G o env.ev σ [] [d] a:=by rw[←Ds aC];exact bG.Ig h u Z aH bJ aT
theorem bW.Ih{T:TypeId}{x:Operand}{n:Nat}{dr:Bool}{cs:List U}(h:o.op=.load T x)(u:env.ev x=.fP cs)(aH:dM G.P T n dr)(bJ:(dr||Nat.blt 0 n)=true)(aT:Nat.ble n cs.length=true)(aC:nK dr n cs=some a):
  Yields G o env.ev σ [] [] a:=by rw[←Ds aC];exact bG.Ih h u aH bJ aT
theorem bW.build{T:TypeId}{parts:Array (Nat×Operand)}{zs:List Value}{fe:List (Nat×Nat)}{ps:List (Nat×U)}{cs:List U}(h:o.op=.build T parts)(aH:j0 G.P T zs fe)(aB:env.rA parts.toList=some ps)
  (be:yw fe (qe zs) ps=some cs):Yields G o env.ev σ [] [] (.agg cs):=bG.build h aH (by rw[ai.z7 aB];exact Ny fe be)
theorem bW.buildSlice{T E sz len:Nat}{parts:Array (Nat×Operand)}{zs:List Value}{ps:List (Nat×U)}{xs:List (List U)}(h:o.op=.buildSlice T len parts)(aH:ku G.P T E sz zs)(aJ:parts.size=len)(W:(Nat.ble (len*sz) 65536&&Nat.ble len 65536)=true)
  (aB:env.rA parts.toList=some ps) (be:ur sz 0 ps=some xs) (aa:kL xs.flatten=true):Yields G o env.ev σ [] [] (.aX true xs):=
 bG.buildSlice h aH aJ (by simpa using W) (by rw[ai.z7 aB];exact CJ sz be) aa
theorem bW.makeFunc{f:FuncId}{aF:Array Operand}{l:List U}(h:o.op=.makeFunc (.func f) #[] aF)(aJ:env.nI aF.toList=some l):Yields G o env.ev σ [] [] (.fn f l):=by
 rw[←ai.v7 aJ];exact bG.makeFunc h
theorem bW.field{T f off n:Nat}{dr:Bool}{x:Operand}{cs:List U}(h:o.op=.field T x f)(u:env.ev x=.agg cs)(aH:gE G.P T f off n dr)(aT:Nat.ble (off+n) cs.length=true)(aC:nK dr n (cs.drop off)=some a):Yields G o env.ev σ [] [] a:=by
 rw[←Ds aC];exact bG.field h u aH aT
theorem bW.call{gH:Operand}{args:Array Operand}{k:Array TypeId}{f:FuncId}{aF cO ps:List U}{σs dB:Y}{r:U}(h:o.op=.call ⟨.value gH,args,k⟩)(be:env.ev gH=.fn f aF)
  (nG:∀(args:Array Value) (w:World),(callFunc f args).run G.P w=.ok (.enter f args) w) (cE:ef G.P f dB cO r) (aB:env.nI args.toList=some ps) (aC:jD σs (ps++aF) cO) (W:qn σ σs) (aa:qn σs dB)
  (ax:r.closed=true) (o7:dB.clean (λd=>!(dB.ids++[]).contains d)=true):Yields G o env.ev σ [] σs.ids r:=
 bG.call h be nG W.mem (by rw[ai.v7 aB];exact aC) aa.mem cE ax o7
theorem bW.Pf{gH:Operand}{args:Array Operand}{k:Array TypeId}{f:FuncId}{aF cO ps:List U}{dB:Y}{ho:U→Y→Prop}(news:List Nat)(h:o.op=.call ⟨.value gH,args,k⟩)(be:env.ev gH=.fn f aF)
  (nG:∀(args:Array Value) (w:World),(callFunc f args).run G.P w=.ok (.enter f args) w) (cE:gi G.P f dB cO ho) (aB:env.nI args.toList=some ps) (aC:jD σ (ps++aF) cO) (W:qn σ dB)
  (aT:news.all (λd=>!G.ids.contains d&&(σ.get d).isNone)=true) (hJ:(σ.minus dB.ids).clean news.contains=true)
  (iP:∀r σ2,ho r σ2→r.refs (λd=>!(dB.ids++news).contains d)=false∧σ2.clean (λd=>!(dB.ids++news).contains d)=true) :
  g8 G o env.ev σ (dB.ids++news) news (λr az=>∃σ2,ho r σ2∧az=σ2++σ.minus dB.ids):=
 en.call news h be nG W.mem (by rw[ai.v7 aB];exact aC) cE aT hJ iP
theorem bW.HL{T aW d p n:Nat}{dr:Bool}{x y:Operand}{cs ca mR:List U}(h:o.op=.store T x y)(u:env.ev x=.ptr d p)(aH:dM G.P T n dr)(ah:env.cz y=some a)(Z:σ.get d=some (.cells aW cs))
  (be:a.flat=true) (vC:q2 a=some ca) (aT:Nat.beq ca.length n=true) (aJ:Nat.ble (p+n) cs.length=true) (W:spine (iw cs p ca)=some mR) :
  g8 G o env.ev σ [d] [] (λr az=>r=.undef∧az=σ.set d (.cells aW mR)):=by
 rw[←tb W,←zN vC];exact en.HL h u (ai.b5 ah) Z aH.size be (by rw[zN vC];simpa using aT) (by simpa using aJ)
theorem Mo{n:Int}(h1 : -9223372036854775808≤n)(D:n≤9223372036854775807):ta .i64 n:=by
 unfold ta;rw[IntKind.wrap_i64];omega
theorem Hz.tmp{t:Nat}{a:U}(h:env.find t=some a):oN G env σ (.tmp t) a:=by rw[←ai.oy h];exact .tmp t
theorem Hz.cell{a T d aW n:Nat}{dr:Bool}{cs:List U}{r:U}(aH:dM G.P T n dr)(aC:env.get a=.ptr d 0)(Z:σ.get d=some (.cells aW cs))(aT:Nat.beq cs.length n=true)(bJ:(dr||Nat.blt 0 n)=true)(ax:nK dr n cs=some r):oN G env σ (.cell a T) r:=by
 rw[←Ds ax];exact .cell a T d aW n dr cs aC Z aH (by simpa using aT) (λe=>by subst e;simpa using bJ)
end ops
end Go.Proofs.YtmnbolcmepihlaaGreat
namespace Go.Proofs.YtmnbolcmepihlaaGreat
set_option linter.all false
open Go
theorem jD.refl(σ:Y):∀l:List U,jD σ l l
 |[]=>.nil
 |x::r=>.cons (.refl x) (jD.refl σ r)
theorem Y.FW:∀σ:Y,σ.freeze []=σ
 |[]=>rfl
 |(d,o)::r=>by simp[Y.freeze,Y.FW r]
section
variable {G:cq}{env:ai}{σ hR:Y}{o:Oper}{ev:Operand→U}
theorem bW.convert{T aW:TypeId}{x:Operand}{k eM:IntKind}{n:Int}(h:o.op=.convert T aW x)(u:ev x=.int k n)(aH:∃d,G.P.underlying T=some d)(BW:G.P.underlying aW=some (.int eM))(aT:ta eM n):Yields G o ev σ [] [] (.int eM n):=by
 have:=bG.convert (G:=G) (σ:=σ) (ev:=ev) h u aH BW
 rwa [show eM.wrap n=n from aT]at this
theorem bW.shr{T aW:TypeId}{x y:Operand}{k eM:IntKind}{m n:Int}(h:o.op=.binOp .shr T x y aW)(u:ev x=.int k m)(ah:ev y=.int eM n)(aT:0≤n∧n<k.bits):Yields G o ev σ [] [] (.int k (m / 2 ^ n.toNat)):=by
 have:=bG.shift (G:=G) (σ:=σ) (ev:=ev) (.inr rfl) h u ah aT.1;simp only at this;rw[Nat.min_eq_left (by omega),Int.fdiv_eq_ediv_of_nonneg _ (Int.le_of_lt (Int.pow_pos (by decide)))]at this;exact this
theorem Yg{n:Int}(h1:0≤n)(D:n≤18446744073709551615):ta .u64 n:=by
 unfold ta;simp only[IntKind.wrap,IntKind.bits,IntKind.signed];simp;omega
end
end Go.Proofs.YtmnbolcmepihlaaGreat
namespace Go.Proofs.YtmnbolcmepihlaaGreat
set_option linter.all false
open Go
def bT{α:Type}(l:List (Int×α))(n:Int):Option α:=(l.find? λp=>decide (p.1=n)).map (·.2)
def c6{α:Type}:List (Int×α)→Int→α→List (Int×α)
 |[],n,v=>[(n,v)]
 |p::r,n,v=>if p.1=n then(n,v)::r else p::c6 r n v
def dy{α:Type}(k:IntKind)(enc:α→U)(l:List (Int×α)):List (U×U):=l.map λp=>(.int k p.1,enc p.2)
theorem CH{I:bw}{α:Type}{k:IntKind}{enc:α→U}(n:Int):∀(l:List (Int×α)) (es:List MapEntry) (i:Nat) (a:α),e9 I (dy k enc l) es→bT l n=some a→
  ∃j v,Instr.findNow (.int k) (.int k n) es i=some (some (i+j,v))∧aO I (enc a) v∧∃e,es[j]?=some e∧e.key=.int k n∧
   ∀(b:α) (ay:Value) (hj:MapEntry→MapEntry),aO I (enc b) ay→(∀e,(hj e).key=.int k n∧(hj e).val=ay)→e9 I (dy k enc (c6 l n b)) (es.modify j hj)
 |[],es,i,a,h,bl=>by simp[bT]at bl
 |(m,b)::r,es,i,a,h,bl=>by
  simp only[dy,List.map_cons,e9]at h;obtain⟨e,bF,rfl,h1,D,ak⟩:=h;simp only[aO]at h1;by_cases hm:m=n
  ·subst hm;simp only[bT,List.find?,decide_true,Option.map_some,Option.some.injEq]at bl;subst bl;refine⟨0,e.val,?_,D,e,rfl,h1,?_⟩
   ·simp[Instr.findNow,Instr.sameNow,h1]
   ·intro c ay hj hu hk;simp only[c6,if_pos,dy,List.map_cons,e9,List.modify_zero_cons];exact⟨hj e,bF,rfl,by simp only[aO];exact(hk e).1,by rw[(hk e).2];exact hu,ak⟩
  ·have pY:bT r n=some a:=by simpa [bT,List.find?,hm]using bl
   obtain⟨j,v,an,au,cw,aK,aG,bb⟩:=CH n r bF (i+1) a ak pY;refine⟨j+1,v,?_,au,cw,by simpa using aK,aG,?_⟩
   ·simp only[Instr.findNow,Instr.sameNow,h1,if_pos];have:(n==m)=false:=by simpa using λe=>hm e.symm
    rw[this];simp only;rw[an];simp[Nat.add_assoc,Nat.add_comm 1 j]
   ·intro c ay hj hu hk;simp only[c6,if_neg hm,dy,List.map_cons,e9,List.modify_succ_cons];exact⟨e,_,rfl,by simp only[aO];exact h1,D,bb c ay hj hu hk⟩
theorem CI{I:bw}{α:Type}{k:IntKind}{enc:α→U}(n:Int):∀(l:List (Int×α)) (es:List MapEntry) (i:Nat),e9 I (dy k enc l) es→bT l n=none→
  Instr.findNow (.int k) (.int k n) es i=some none∧∀(b:α) (e:MapEntry),aO I (enc b) e.val→e.key=.int k n→e9 I (dy k enc (c6 l n b)) (es++[e])
 |[],es,i,h,bl=>by
  simp only[dy,List.map_nil,e9]at h;subst h;refine⟨rfl,λb e V hk=>?_⟩;simp only[c6,dy,List.map_cons,List.map_nil,e9,List.nil_append];exact⟨e,[],rfl,by simp only[aO];exact hk,V,rfl⟩
 |(m,c)::r,es,i,h,bl=>by
  simp only[dy,List.map_cons,e9]at h;obtain⟨e,bF,rfl,h1,D,ak⟩:=h;simp only[aO]at h1;have hm:m≠n:=λhm=>by subst hm;simp[bT,List.find?]at bl
  have pY:bT r n=none:=by simpa [bT,List.find?,hm]using bl
  obtain⟨an,au⟩:=CI n r bF (i+1) ak pY;refine⟨?_,λb cw V hk=>?_⟩
  ·simp only[Instr.findNow,Instr.sameNow,h1,if_pos];have:(n==m)=false:=by simpa using λe=>hm e.symm
   rw[this];exact an
  ·simp only[c6,if_neg hm,dy,List.map_cons,e9,List.cons_append];exact⟨e,_,rfl,by simp only[aO];exact h1,D,au b cw V hk⟩
theorem TH{I:bw}:∀(l:List (U×U)) (es:List MapEntry),e9 I l es→es.length=l.length
 |[],es,h=>by simp only[e9]at h;subst h;rfl
 |(k,v)::r,es,h=>by
  simp only[e9]at h;obtain⟨e,bF,rfl,_,_,ak⟩:=h;simp[TH r bF ak]
structure k7(P:Program)(T K E:TypeId)(k:IntKind):Prop where
 gv:P.underlying T=some (.map K E)
 key:P.underlying K=some (.int k)
section
variable {G:cq}{σ:Y}{o:Oper}{ev:Operand→U}
theorem bG.makeMap{T d:Nat}{K E:TypeId}(h:o.op=.makeMap T none)(hi:G.ids.contains d=false):Yields G o ev ((d,.map K E [])::σ) [d] [d] (.dm d):=by
 intro az cx I β w aP b2 aq hm hop;have eX:(execOp aP o).run G.P w=.ok (.value (.map (some w.heap.size))) (w.alloc (.map #[] 0)):=by
  simp[execOp,h,Instr.makeMap]
 rw[eX];have k2:=hm d (by simp);refine⟨I,g9 β d (.map (some w.heap.size)),by simp only[ar];exact⟨by rw[g7],rfl⟩,?_,b7.refl I,λx u=>gU β _ (λe=>u (by simp[e]))⟩;refine aq.real (by simpa using hi) k2 rfl λaI b3=>?_;rw[b2 d (by simp),Y.c4,if_pos rfl]at b3;injection b3 with b3
 subst b3;simp only[aU,g7];exact .inr ⟨w.heap.size,#[],0,rfl,heap_alloc_new w _,rfl,λo=>aq.ic (Nat.le_refl _) o,.inl aq.size,by simp[iK]⟩
theorem FX{G:cq}{cx:eO}{I:bw}{β:Nat→Value}{σ:Y}{w:World}(aq:bS G cx I β σ w){d:Nat}{K E:TypeId}{bx:List (U×U)}(Z:σ.get d=some (.map K E bx)){v:Value}(af:ar I β (.dm d) v):
  ∃r es clock,v=.map (some r)∧β d=.map (some r)∧w.heap[r]?=some (.map es clock)∧e9 I bx es.toList∧(∀o,I r o=none)∧Place cx r∧iK es clock:=by
 simp only[ar]at af;obtain⟨rfl,af⟩:=af;have:=aq.cB d _ Z;simp only[aU]at this;rcases this with q|⟨r,es,clock,an,au,aK,aG,bb⟩
 ·rw[q]at af;simp[k3]at af
 ·exact⟨r,es,clock,an,an,au,aK,aG,bb⟩
theorem nS{P:Program}{w:World}{r:Nat}{es:Array MapEntry}{c:Nat}(h:w.heap[r]?=some (.map es c)):(getObj r).run P w=.ok (.map es c) w:=by simp[getObj,Sem.run,h]
theorem CD{P:Program}{K:TypeId}{k:IntKind}(fz:P.underlying K=some (.int k))(e:Bool)(n:Int)(w:World):(Instr.checkKey e 10000 K (.int k n)).run P w=.ok () w:=by
 have aA:∀w,(underlying K).run P w=.ok (.int k) w:=λw=>by simp[underlying,program,Sem.run,fz]
 rw[Instr.checkKey];simp[aA]
def Ah(I:bw)(w:World)(v:Value)(bx:List (U×U)):Prop:=∃r es clock,v=.map (some r)∧w.heap[r]?=some (.map es clock)∧e9 I bx es.toList
theorem Li{G:cq}{cx:eO}{I:bw}{β:Nat→Value}{σ:Y}{w:World}(aq:bS G cx I β σ w){d:Nat}{K E:TypeId}{bx:List (U×U)}(Z:σ.get d=some (.map K E bx)){v:Value}(af:ar I β (.dm d) v):Ah I w v bx:=by
 obtain⟨r,es,clock,hH,_,au,aK,_⟩:=FX aq Z af;exact⟨r,es,clock,hH,au,aK⟩
theorem Nz{G:cq}{cx:eO}{I:bw}{β:Nat→Value}{σ:Y}{w:World}(aq:bS G cx I β σ w){d:Nat}{es:Array MapEntry}{clock:Nat}{K E:TypeId}{bx:List (U×U)}(Z:σ.get d=some (.gj es clock K E bx)){v:Value}(af:ar I β (.dm d) v):Ah I w v bx:=by
 simp only[ar]at af;obtain⟨rfl,af⟩:=af;have:=aq.cB d _ Z;simp only[aU]at this;rcases this with q|⟨r,an,au,aK,_⟩
 ·rw[q]at af;simp[k3]at af
 ·exact⟨r,es,clock,an,au,aK⟩
theorem NA{G:cq}{cx:eO}{I:bw}{β:Nat→Value}{σ:Y}{w:World}(aq:bS G cx I β σ w){bx:List (U×U)}{v:Value}(af:ar I β (.de bx) v):Ah I w v bx:=by
 simp only[ar,aO]at af;obtain⟨r,es,clock,rfl,D,ak,_⟩:=af;obtain⟨gG,jC,bc,bX⟩:=aq.h9 r _ D;obtain⟨rfl,rfl⟩:=F6 bX;exact⟨r,es,clock,rfl,bc,ak⟩
theorem Lj{α:Type}{I:bw}{β:Nat→Value}{w:World}{aP:Operand→Value}{T K E:Nat}{k:IntKind}{x y:Operand}{ok:Bool}{n:Int}(l:List (Int×α))(enc:α→U)(z:α)(h:o.op=.lookup T x y ok)(h1:Ah I w (aP x) (dy k enc l))(D:aP y=.int k n)
  (aH:k7 G.P T K E k) (hz:∀w,∃v,(zeroValue E).run G.P w=.ok v w∧∀I,aO I (enc z) v) :
  ∃v,(execOp aP o).run G.P w=.ok (.value v) w∧ar I β (bif ok then .cD [enc ((bT l n).getD z),.bool (bT l n).isSome]else enc ((bT l n).getD z)) v:=by
 obtain⟨r,es,clock,hH,au,aK⟩:=h1;have aA:∀w,(underlying T).run G.P w=.ok (.map K E) w:=λw=>by simp[underlying,program,Sem.run,aH.gv]
 have e2:∀w,(underlying K).run G.P w=.ok (.int k) w:=λw=>by simp[underlying,program,Sem.run,aH.key]
 have b6:=nS (P:=G.P) au;have cQ:=CD (P:=G.P) aH.key (es.isEmpty) n w;cases bl:bT l n with
 |none=>
  obtain⟨bU,_⟩:=CI n l es.toList 0 aK bl;obtain⟨v,lp,mz⟩:=hz w;have fo:(Instr.findKey K (.int k n) es.toList).run G.P w=.ok none w:=by simp[Instr.findKey,e2,bU]
  cases ok with
  |true=>
   refine⟨.tuple #[v,.bool false],by simp[execOp,h,Instr.lookup,hH,D,aA,b6,cQ,fo,lp],?_⟩;simp only[cond_true,ar,bO];exact⟨_,rfl,v,[.bool false],rfl,aO.rep β _ _ (mz I),.bool false,[],rfl,by simp[aO],rfl⟩
  |false=>
   refine⟨v,by simp[execOp,h,Instr.lookup,hH,D,aA,b6,cQ,fo,lp],?_⟩;simp only[cond_false];exact aO.rep β _ _ (mz I)
 |some a=>
  obtain⟨j,v,bU,cG,_⟩:=CH n l es.toList 0 a aK bl;have fo:(Instr.findKey K (.int k n) es.toList).run G.P w=.ok (some (0+j,v)) w:=by simp[Instr.findKey,e2,bU]
  cases ok with
  |true=>
   refine⟨.tuple #[v,.bool true],by simp[execOp,h,Instr.lookup,hH,D,aA,b6,cQ,fo],?_⟩;simp only[cond_true,ar,bO];exact⟨_,rfl,v,[.bool true],rfl,aO.rep β _ _ cG,.bool true,[],rfl,by simp[aO],rfl⟩
  |false=>
   refine⟨v,by simp[execOp,h,Instr.lookup,hH,D,aA,b6,cQ,fo],?_⟩;simp only[cond_false];exact aO.rep β _ _ cG
theorem bG.lookup{α:Type}{T K E d:Nat}{k:IntKind}{x y:Operand}{ok:Bool}{n:Int}(l:List (Int×α))(enc:α→U)(z:α)(h:o.op=.lookup T x y ok)(u:ev x=.dm d)(ah:ev y=.int k n)(Z:σ.get d=some (.map K E (dy k enc l)))
  (aH:k7 G.P T K E k) (hz:∀w,∃v,(zeroValue E).run G.P w=.ok v w∧∀I,aO I (enc z) v) :
  Yields G o ev σ [] [d] (bif ok then .cD [enc ((bT l n).getD z),.bool (bT l n).isSome]else enc ((bT l n).getD z)):=
 .pure λaz cx I β w aP b2 aq hop=>by
  have h1:=hop x (by simp[h,Op.operands]);rw[u]at h1
  have D:=hop y (by simp[h,Op.operands]);rw[ah]at D;have D:=iH D
  exact Lj l enc z h (Li aq (by rw[b2 d (by simp)];exact Z) h1) D aH hz
theorem bG.Yh{α:Type}{T K E:Nat}{k:IntKind}{x y:Operand}{ok:Bool}{n:Int}(l:List (Int×α))(enc:α→U)(z:α)(h:o.op=.lookup T x y ok)(u:ev x=.de (dy k enc l))(ah:ev y=.int k n)
  (aH:k7 G.P T K E k) (hz:∀w,∃v,(zeroValue E).run G.P w=.ok v w∧∀I,aO I (enc z) v) :
  Yields G o ev σ [] [] (bif ok then .cD [enc ((bT l n).getD z),.bool (bT l n).isSome]else enc ((bT l n).getD z)):=
 .pure λaz cx I β w aP b2 aq hop=>by
  have h1:=hop x (by simp[h,Op.operands]);rw[u]at h1
  have D:=hop y (by simp[h,Op.operands]);rw[ah]at D;have D:=iH D
  exact Lj l enc z h (NA aq h1) D aH hz
theorem WM{α:Type}{I:bw}{β:Nat→Value}{w:World}{aP:Operand→Value}{T K E:Nat}{k:IntKind}{x:Operand}{hj}(l:List (Int×α))(enc:α→U)(h:o.op=.call ⟨.builtin .len,#[x],hj⟩)(hk:hj=#[T])(h1:Ah I w (aP x) (dy k enc l))(aH:G.P.underlying T=some (.map K E)):
  ∃v,(execOp aP o).run G.P w=.ok (.value v) w∧ar I β (.int .i64 (l.length:Int)) v:=by
 subst hk;obtain⟨r,es,clock,hH,au,aK⟩:=h1;have aA:∀w,(underlying T).run G.P w=.ok (.map K E) w:=λw=>by simp[underlying,program,Sem.run,aH]
 have b6:=nS (P:=G.P) au;have aJ:=TH _ _ aK;simp only[Array.length_toList,dy,List.length_map]at aJ;exact⟨.int .i64 l.length,by simp[execOp,h,resolve,invoke,builtin,Builtin.len_,hH,aA,b6,goInt,aJ],by simp[ar,aO]⟩
theorem bG.ail{α:Type}{T K E d:Nat}{k:IntKind}{x:Operand}{hj}(l:List (Int×α))(enc:α→U)(h:o.op=.call ⟨.builtin .len,#[x],hj⟩)(hk:hj=#[T])(u:ev x=.dm d)(Z:σ.get d=some (.map K E (dy k enc l)))(aH:G.P.underlying T=some (.map K E)):
  Yields G o ev σ [] [d] (.int .i64 (l.length:Int)):=
 .pure λaz cx I β w aP b2 aq hop=>by
  have h1:=hop x (by simp[h,Op.operands,Call.operands]);rw[u]at h1
  exact WM l enc h hk (Li aq (by rw[b2 d (by simp)];exact Z) h1) aH
theorem iK.push{es:Array MapEntry}{clock:Nat}(h:iK es clock)(k v:Value):iK (es.push ⟨k,v,clock⟩) (clock+1):=by
 obtain⟨h1,D⟩:=h;refine⟨?_,λx u=>?_⟩
 ·simp only[Array.toList_push,List.map_append,List.map_cons,List.map_nil];rw[List.nodup_append];refine⟨h1,by simp,λa aC b V=>?_⟩;simp only[List.mem_singleton]at V;obtain⟨x,u,rfl⟩:=List.mem_map.1 aC;have:=D x u;omega
 ·simp only[Array.toList_push,List.mem_append,List.mem_singleton]at u;rcases u with u|rfl
  ·have:=D x u;omega
  ·simp
theorem iK.modify{es:Array MapEntry}{clock:Nat}(h:iK es clock)(j:Nat)(f:MapEntry→MapEntry)(be:∀e,(f e).born=e.born):iK (es.modify j f) clock:=by
 obtain⟨h1,D⟩:=h;have e:(es.modify j f).toList.map (·.born)=es.toList.map (·.born):=by
  apply List.ext_getElem?;intro i;simp only[Array.toList_modify,List.getElem?_map,List.getElem?_modify];cases es.toList[i]? with
  |none=>simp
  |some x=>by_cases hi:j=i<;>simp[hi,be]
 refine⟨by rw[e];exact h1,λx u=>?_⟩;have:x.born∈(es.modify j f).toList.map (·.born):=List.mem_map.2 ⟨x,u,rfl⟩;rw[e]at this;obtain⟨y,ah,n5⟩:=List.mem_map.1 this;rw[←n5];exact D y ah
theorem gn.setObj(w:World)(r:Nat)(o:Obj):gn w {w with heap:=w.heap.setIfInBounds r o} r:=
 ⟨λk hk _=>by simp[Array.getElem?_setIfInBounds_ne (Ne.symm hk)],by simp,rfl,rfl,rfl,Nat.le_refl _⟩
theorem en.mapUpdate{α:Type}{T K E d:Nat}{k:IntKind}{x y z:Operand}{n:Int}(l:List (Int×α))(enc:α→U)(v:α)(h:o.op=.mapUpdate T x y z∨o.op=.insert T x y z)(u:ev x=.dm d)(ah:ev y=.int k n)(hz:ev z=enc v)(aa:(enc v).closed=true)
  (Z:σ.get d=some (.map K E (dy k enc l))) (aH:k7 G.P T K E k) :
  g8 G o ev σ [d] [] (λr az=>r=.undef∧az=σ.set d (.map K E (dy k enc (c6 l n v)))):=by
 intro cx I β w aP aq hop;have iM:x∈o.op.operands∧y∈o.op.operands∧z∈o.op.operands:=by rcases h with h|h<;>simp[h,Op.operands]
 have h1:=hop x iM.1;rw[u]at h1
 have D:=hop y iM.2.1;rw[ah]at D;have D:=iH D
 have ak:=hop z iM.2.2;rw[hz]at ak
 have ak:=ar.closed _ _ aa ak;obtain⟨r,es,clock,hH,an,au,aK,aG,bb,bC⟩:=FX aq Z h1;have aA:∀w,(underlying T).run G.P w=.ok (.map K E) w:=λw=>by simp[underlying,program,Sem.run,aH.gv]
 have e2:∀w,(underlying K).run G.P w=.ok (.int k) w:=λw=>by simp[underlying,program,Sem.run,aH.key]
 have b6:=nS (P:=G.P) au;have cQ:=CD (P:=G.P) aH.key false n w
 have gy:∀aI:Obj,(setObj r aI).run G.P w=.ok () {w with heap:=w.heap.setIfInBounds r aI}:=λaI=>by
  have:=gV au;simp[setObj,Sem.run,au]
 have sq:∃gG jC,(execOp aP o).run G.P w=.ok .skip {w with heap:=w.heap.setIfInBounds r (.map gG jC)}∧e9 I (dy k enc (c6 l n v)) gG.toList∧iK gG jC:=by
  cases bl:bT l n with
  |none=>
   obtain⟨bU,cG⟩:=CI n l es.toList 0 aK bl;have fo:(Instr.findKey K (.int k n) es.toList).run G.P w=.ok none w:=by simp[Instr.findKey,e2,bU]
   refine⟨_,_,by rcases h with h|h<;>simp[execOp,h,Instr.mapUpdate,hH,D,aA,b6,cQ,fo,gy]<;>rfl,?_,?_⟩
   rotate_left
   ·exact bC.push _ _
   simpa using cG v ⟨.int k n,aP z,clock⟩ ak rfl
  |some a=>
   obtain⟨j,ay,bU,cG,cw,dP,gT,kk⟩:=CH n l es.toList 0 a aK bl;have fo:(Instr.findKey K (.int k n) es.toList).run G.P w=.ok (some (0+j,ay)) w:=by simp[Instr.findKey,e2,bU]
   have jX:es[j]?=some cw:=by simpa using dP
   have kK:(Instr.keyThatStays (.int k n) (.int k n)).run G.P w=.ok (.int k n) w:=by simp[Instr.keyThatStays,Instr.sameBits]
   refine⟨_,_,by rcases h with h|h<;>simp[execOp,h,Instr.mapUpdate,hH,D,aA,b6,cQ,fo,gy,jX,gT,kK]<;>rfl,?_,?_⟩
   ·simpa using kk v (aP z) (λe=>{e with key:=.int k n,val:=aP z}) ak (λe=>⟨rfl,rfl⟩)
   ·exact bC.modify _ _ λ_=>rfl
 obtain⟨gG,jC,eX,hv,fv⟩:=sq;rw[eX];refine⟨.undef,_,I,β,⟨rfl,rfl⟩,by simp[ar,aO],?_,b7.refl I,λ_ _=>rfl,λx u=>by rw[Y.hU,if_neg (by simpa using u)]⟩;have eT:bV (β d)=some r:=by rw[an];rfl
 refine aq.turn (d:=d) (gn.setObj w r _) bb (λx u=>by rw[Y.hU,if_neg u]) (λx u W e=>aq.dn x d W (by rw[Z];rfl) u r e (je eT)) (b7.refl I) (λ_ _ _=>rfl)
  (λo v af=>by rw[aG o]at af;cases af) (aG none) (λ_ _=>rfl) (.inr rfl) (g0.refl β) (.inl eT) λaI b3=>?_
 rw[Y.hU,if_pos rfl,Z]at b3;injection b3 with b3
 subst b3;simp only[aU];exact .inr ⟨r,gG,jC,an,by have:=gV au;simp[Array.getElem?_setIfInBounds,this],hv,aG,bb,fv⟩
theorem bG.ZT{T:TypeId}{x y:Operand}{k:IntKind}{n:Int}{s:ByteArray}{b:UInt8}(h:o.op=.index T x y)(u:ev x=.str s)(ah:ev y=.int k n)(aH:G.P.underlying T=some .string)(aT:0≤n)(V:s[n.toNat]?=some b):
  Yields G o ev σ [] [] (.int .u8 (b.toNat:Int)):=
 .pure λaz cx I β w aP b2 aq hop=>by
  have h1:=hop x (by simp[h,Op.operands]);rw[u]at h1;simp only[ar,aO]at h1
  have D:=hop y (by simp[h,Op.operands]);rw[ah]at D;have D:=iH D
  have aA:∀w,(underlying T).run G.P w=.ok .string w:=λw=>by simp[underlying,program,Sem.run,aH]
  exact⟨.int .u8 b.toNat,by simp[execOp,h,Instr.index,h1,D,asIntOf,aA,aT,V],by simp[ar,aO]⟩
end
end Go.Proofs.YtmnbolcmepihlaaGreat
namespace Go.Proofs.YtmnbolcmepihlaaGreat
set_option linter.all false
open Go Go.Sort
abbrev NB(P:Program)(f:FuncId):Prop:=∀(bV off aF:Nat) (zs:List Int) (w:World),Holds (Value.int .i64) w bV off zs.toArray→bV<w.heap.size→zs.length<4611686018427387904→
  Calls P f #[.slice (some ⟨bV,off,none⟩) zs.length aF] w λe w'=>
   e=.returned (.tuple #[])∧∃n os,w'=grow (putRow (Value.int .i64) (Go.Sort.ahead w n) bV off (zs.mergeSort λx y=>decide (x≤y)).toArray) os
def encI(n:Int):List U:=[.int .i64 n]
def yK(x:Int):List Int→List Int
 |[]=>[x]
 |y::r=>if x≤y then x::y::r else y::yK x r
def kZ:List Int→List Int
 |[]=>[]
 |x::r=>yK x (kZ r)
theorem LO(x:Int):∀l:List Int,(yK x l).Perm (x::l)
 |[]=>List.Perm.refl _
 |y::r=>by
  simp only[yK];split
  ·exact List.Perm.refl _
  ·exact((LO x r).cons y).trans (List.Perm.swap x y r)
theorem CP:∀l:List Int,(kZ l).Perm l
 |[]=>List.Perm.refl _
 |x::r=>(LO x (kZ r)).trans ((CP r).cons x)
theorem TI(x:Int):∀l:List Int,l.Pairwise (·≤·)→(yK x l).Pairwise (·≤·)
 |[],_=>by simp[yK]
 |y::r,h=>by
  simp only[yK];rw[List.pairwise_cons]at h;split
  ·rename_i u;rw[List.pairwise_cons];refine⟨λz hz=>?_,List.pairwise_cons.2 h⟩;rcases List.mem_cons.1 hz with rfl|hz
   ·exact u
   ·exact Int.le_trans u (h.1 z hz)
  ·rename_i u;rw[List.pairwise_cons];refine⟨λz hz=>?_,TI x r h.2⟩;rcases List.mem_cons.1 ((LO x r).mem_iff.1 hz)with rfl|hz
   ·omega
   ·exact h.1 z hz
theorem K1:∀l:List Int,(kZ l).Pairwise (·≤·)
 |[]=>List.Pairwise.nil
 |x::r=>TI x _ (K1 r)
theorem Tm:∀{l js:List Int},l.Perm js→l.Pairwise (·≤·)→js.Pairwise (·≤·)→l=js
 |[],js,h,_,_=>by simpa using h.symm
 |x::r,[],h,_,_=>by simpa using h
 |x::r,y::s,h,h1,D=>by
  rw[List.pairwise_cons]at h1 D;have n5:x=y:=by
   have jj:x∈y::s:=h.mem_iff.1 (by simp);have a2:y∈x::r:=h.mem_iff.2 (by simp);have dJ:y≤x:=by
    rcases List.mem_cons.1 jj with rfl|jj
    ·exact Int.le_refl _
    ·exact D.1 x jj
   have eL:x≤y:=by
    rcases List.mem_cons.1 a2 with rfl|a2
    ·exact Int.le_refl _
    ·exact h1.1 y a2
   omega
  subst n5;rw[Tm (List.Perm.cons_inv h) h1.2 D.2]
theorem Vq(zs:List Int):(zs.mergeSort λx y=>decide (x≤y))=kZ zs:=by
 refine Tm ((List.mergeSort_perm zs _).trans (CP zs).symm) ?_ (K1 zs);have:=List.pairwise_mergeSort (le:=λx y:Int=>decide (x≤y)) (λa b c h1 D=>by simp at h1 D ⊢;omega) (λa b=>by simp;omega) zs;exact this.imp (λh=>by simpa using h)
theorem Vr(zs:List Int):(kZ zs).length=zs.length:=(CP zs).length_eq
theorem FY{I:bw}:∀(zs:List Int) (vs:List Value),b9 I (zs.map encI).flatten vs↔vs=zs.map (Value.int .i64)
 |[],vs=>by simp[b9]
 |z::r,vs=>by
  simp only[List.map_cons,List.flatten_cons,encI,List.singleton_append,b9,aO];constructor
  ·rintro⟨ay,bF,rfl,rfl,h⟩;rw[(FY r bF).1 h]
  ·rintro rfl;exact⟨_,_,rfl,rfl,(FY r _).2 rfl⟩
theorem Vw{P:Program}{f:FuncId}(W:NB P f)(aT:gi P f [] [.cV] (λr az=>r=.cD []∧az=[])){d T:Nat}(zs:List Int)(hz:zs.length<4611686018427387904):
    gi P f [(d,.slice T 1 (zs.map encI) 0 false)] [.own d] (λr az=>r=.cD []∧az=[(d,.slice T 1 ((kZ zs).map encI) 0 false)]):=by
  intro cx w I β vs aq ax;simp only[bO]at ax;obtain⟨ay,bF,rfl,ax,rfl⟩:=ax;have Z:Y.get [(d,cn.slice T 1 (zs.map encI) 0 false)] d=some (.slice T 1 (zs.map encI) 0 false):=by rw[Y.c4,if_pos rfl]
  have aj:=aq.cB d _ Z;simp only[ar]at ax;obtain⟨rfl,ax⟩:=ax;simp only[aU,List.length_map]at aj;rcases aj with q|⟨q,au,_⟩|⟨b,aF,arr,an,au,aK,aG,bb,bC,bY,cK,di,ec,e3⟩
  · rw[q]at ax;simp[iy]at ax
  · have Kg:zs=[]:=by simpa using au
    subst Kg;have ahR:bS ⟨P,0,Y.ids []⟩ cx I β [] w:={aq with cB:=λx o h=>by simp[Y.get]at h,dn:=λx y h=>by simp[Y.get]at h,keep:=λx h=>by simp[Y.ids]at h};refine Calls.mono (aT cx w I β [β d] ahR (by simp only[bO,ar,aO];exact⟨_,_,rfl,q,rfl⟩)) ?_;rintro e w' ⟨v,rfl,r,az,aS,β',⟨rfl,rfl⟩,h1,D⟩;refine⟨v,rfl,.cD [],[(d,.slice T 1 [] 0 false)],aS,β,⟨rfl,by simp[kZ]⟩,?_,?_⟩
    · simp only[ar,bO]at h1 ⊢;exact h1
    · exact{D with
        cB:=λx o h=>by
          rw[Y.c4]at h;split at h
          · rename_i e;subst e;injection h with h;subst h
            simp only[aU];exact .inr (.inl ⟨q,trivial,trivial⟩)
          · simp[Y.get]at h
        dn:=λx y u ah ct b V hf=>by
          rw[Y.c4]at u ah;split at u
          · rename_i e;subst e
            split at ah
            · rename_i cw;exact ct cw
            · simp[Y.get]at ah
          · simp[Y.get]at u
        keep:=aq.keep}
  · simp only[Nat.mul_one]at bb bC
    have mo:arr.toList.take zs.length=zs.map (Value.int .i64):=(FY zs _).1 bC
    have lZ:∀j,j<zs.length→arr[j]?=some (Value.int .i64 (zs[j]?.getD default)):=λj aM=>by
      have:=congrArg (·[j]?) mo;simp only[List.getElem?_take,if_pos aM,Array.getElem?_toList,List.getElem?_map]at this;rw[this,List.getElem?_eq_getElem aM];rfl
    have rX:Holds (Value.int .i64) w b 0 zs.toArray:=λj aM=>by
      have aM:j<zs.length:=by simpa using aM
      constructor
      · simp only[World.cell?,aG,Nat.zero_add]
        rw[lZ j aM];simp[aM]
      · simp[World.frozen?,aG]
    have bQ:=gV aG;have aa:=W b 0 aF zs w rX bQ hz;rw[an];refine Calls.mono aa ?_;rintro e w' ⟨rfl,n,os,rfl⟩;rw[Vq];have hT:(kZ zs).length=zs.length:=Vr zs;have B1:(grow (putRow (Value.int .i64) (Go.Sort.ahead w n) b 0 (kZ zs).toArray) os).heap[b]?=some (.cells (putCells (Value.int .i64) 0 (kZ zs).toArray arr) T (0,0)):=by
      simp only[grow,putRow,mapBlock,Go.Sort.ahead];rw[Array.getElem?_append_left (by simpa using bQ),Array.getElem?_modify,if_pos rfl,aG];rfl
    have Ii:(putCells (Value.int .i64) 0 (kZ zs).toArray arr).toList.take (kZ zs).length=(kZ zs).map (Value.int .i64):=by
      apply List.ext_getElem?;intro j;rw[List.getElem?_take,List.getElem?_map];split
      · rename_i aM
        have jo:j<arr.size:=by omega
        rw[Array.getElem?_toList];simp only[putCells,Array.getElem?_mapIdx];rw[Array.getElem?_eq_getElem jo];simp[aM]
      · rename_i aM
        rw[List.getElem?_eq_none (by omega)];rfl
    refine⟨.tuple #[],rfl,.cD [],_,I,β,⟨rfl,rfl⟩,by simp only[ar,bO];exact⟨_,rfl,rfl⟩,?_⟩;refine bS.turn (b:=b) (d:=d) aq ⟨λk hk bQ=>?_,by simp[grow,putRow,mapBlock,Go.Sort.ahead],rfl,rfl,rfl,by simp[grow,putRow,mapBlock,Go.Sort.ahead]⟩ e3 (λx u=>?_) (λx u h _=>?_) (b7.refl I) (λ_ _ _=>rfl) (λo v af=>?_) (aq.rV aG) (λ_ _=>rfl) (.inr rfl) (g0.refl β) (.inl (by rw[an];rfl)) (λaI b3=>?_)
    · simp only[grow,putRow,mapBlock,Go.Sort.ahead]
      rw[Array.getElem?_append_left (by simpa using bQ),Array.getElem?_modify,if_neg (λe=>hk e.symm)]
    · rw[Y.c4,Y.c4,if_neg (Ne.symm u),if_neg (Ne.symm u)]
    · rw[Y.c4,if_neg (Ne.symm u)]at h;simp[Y.get]at h
    · rw[ec o (by omega)]at af;cases af
    · rw[Y.c4,if_pos rfl]at b3
      injection b3 with b3
      subst b3;simp only[aU,List.length_map];refine .inr (.inr ⟨b,aF,_,by rw[an,hT],by omega,aK,B1,by simpa [putCells]using bb,?_,?_,by omega,?_,?_,e3⟩)
      · rw[Nat.mul_one];exact(FY _ _).2 Ii
      · intro e he;obtain⟨x,_,rfl⟩:=List.mem_map.1 he;rfl
      · intro h;cases h
      · intro o _;exact ec o (by omega)
end Go.Proofs.YtmnbolcmepihlaaGreat
namespace Go.Proofs.YtmnbolcmepihlaaGreat
set_option linter.all false
open Go
mutual
theorem U.Mp{r s:Nat→Nat}(h:∀x,s (r x)=x):∀a:U,(a.cH r).cH s=a
 |.gq|.undef|.int _ _|.bool _|.str _|.aX _ _|.fP _|.cV|.mm|.gp _ _|.kD|.de _|.arr _=>rfl
 |.agg cs=>by simp only[U.cH,zU h cs]
 |.cD cs=>by simp only[U.cH,zU h cs]
 |.fn _ cs=>by simp only[U.cH,zU h cs]
 |.own d=>by simp only[U.cH,h d]
 |.ptr d _=>by simp only[U.cH,h d]
 |.fm _ d=>by simp only[U.cH,h d]
 |.dm d=>by simp only[U.cH,h d]
theorem zU{r s:Nat→Nat}(h:∀x,s (r x)=x):∀l:List U,py s (py r l)=l
 |[]=>rfl
 |x::t=>by simp only[py,U.Mp h x,zU h t]
end
theorem Y.CG{r s:Nat→Nat}(h:∀x,s (r x)=x):∀(σ:Y) (d:Nat),(σ.cH r).get (r d)=(σ.get d).map (·.cH r)
 |[],d=>rfl
 |(k,v)::t,d=>by
  have:=Y.CG h t d;simp only[Y.cH]at this ⊢;simp only[List.map_cons,Y.c4];by_cases hk:k=d
  ·subst hk;simp
  ·have:r k≠r d:=λe=>hk (by rw[←h k,←h d,e]);simp only[hk,this,if_false];assumption
theorem Y.NT(r:Nat→Nat)(σ:Y):(σ.cH r).ids=σ.ids.map r:=by simp[Y.ids,Y.cH]
theorem aU.cH{cx:eO}{I:bw}{β β':Nat→Value}{w:World}{r:Nat→Nat}(V:∀d,β' (r d)=β d){d:Nat}{o:cn}{nu:eO}(aa:∀b,Place cx b→Place nu b)(h:aU cx I β w d o):aU nu I β' w (r d) (o.cH r):=by
 cases o with
 |cells T cs=>
  simp only[aU,cn.cH,V]at h ⊢;rcases h with q|⟨b,arr,aA,e2,b6,cQ,fo⟩
  ·exact .inl q
  ·exact .inr ⟨b,arr,aA,e2,yd (p:=λ_=>false) (λd _=>V d) cs _ (vU (λ_=>rfl) cs) b6,cQ,aa _ fo⟩
 |slice T sz xs k cU=>
  simp only[aU,cn.cH,V]at h ⊢;rcases h with q|q|⟨b,aF,arr,an,au,aK,aG,bb,bC,bY,cK,di,ec,e3⟩
  ·exact .inl q
  ·exact .inr (.inl q)
  ·exact .inr (.inr ⟨b,aF,arr,an,au,aK,aG,bb,bC,bY,cK,di,ec,aa _ e3⟩)
 |win T sz xs=>
  simp only[aU,cn.cH,V]at h ⊢;rcases h with q|q|⟨b,g4,aF,arr,an,au,aK,aG,bb,bC,bY,cK,di⟩
  ·exact .inl q
  ·exact .inr (.inl q)
  ·exact .inr (.inr ⟨b,g4,aF,arr,an,au,aK,aG,bb,bC,bY,cK,aa _ di⟩)
 |map K E bx=>
  simp only[aU,cn.cH,V]at h ⊢;rcases h with q|⟨b,es,c,an,au,aK,aG,bb,bC⟩
  ·exact .inl q
  ·exact .inr ⟨b,es,c,an,au,aK,aG,aa _ bb,bC⟩
 |k4 K E bx=>
  simp only[aU,cn.cH,V]at h ⊢;rcases h with q|⟨b,es,c,an,au,aK,bb,bC⟩
  ·exact .inl q
  ·exact .inr ⟨b,es,c,an,au,aK,aa _ bb,bC⟩
 |gj es clock K E bx=>
  simp only[aU,cn.cH,V]at h ⊢;rcases h with q|⟨b,an,au,aK,aG,bb,bC⟩
  ·exact .inl q
  ·exact .inr ⟨b,an,au,aK,aG,aa _ bb,bC⟩
 |iter cT pM kI seen=>
  simp only[aU,cn.cH,V]at h ⊢;rcases h with q|⟨b,fh,an,au,aK,aG,bb⟩
  ·exact .inl q
  ·exact .inr ⟨b,fh,an,au,aK,aG,aa _ bb⟩
 |hdr cT n=>simpa only[aU,cn.cH,V]using h
 |cS cR=>
  simp only[aU,cn.cH,V]at h ⊢;rcases h with q|⟨W,an,au⟩
  ·exact .inl q
  ·exact .inr ⟨W,an,au.go (b7.refl I) λb _=>⟨λ_=>rfl,λ_=>rfl,aa b⟩⟩
 |gZ T xs t=>
  simp only[aU,cn.cH,V]at h ⊢;rcases h with q|⟨aN,aF,arr,an,au,aK,aG,bb,bC,bY,cK,di,ec,e3⟩
  ·exact .inl q
  ·exact .inr ⟨aN,aF,arr,an,au,aK,aG,bb,bC,bY,cK,di,ec,aa _ e3⟩
 |vec T xs=>
  simp only[aU,cn.cH,V]at h ⊢;rcases h with q|⟨aN,arr,an,au,aK,aG,bb⟩
  ·exact .inl q
  ·exact .inr ⟨aN,arr,an,au,aK,aG,aa _ bb⟩
 |ig es clock bx seen=>
  simp only[aU,cn.cH,V]at h ⊢;rcases h with q|⟨r',fh,an,au,aK,aG,bb,bC,bY⟩
  ·exact .inl q
  ·exact .inr ⟨r',fh,an,au,aK,aG,bb,bC,aa _ bY⟩
 |fV T e n dL=>
  have cb:∀W as,i3 β' W as (pz r dL)↔i3 β W as dL:=λW as=>by
   cases dL with
   |none=>exact Iff.rfl
   |some q=>obtain⟨i,t⟩:=q;cases i<;>simp only[i3,pz,V]
  simp only[aU,cn.cH,V,cb]at h ⊢;rcases h with q|⟨aN,aF,arr,W,an,au,aK,aG,bb,bC,bY,cK,di,ec⟩
  ·exact .inl q
  ·exact .inr ⟨aN,aF,arr,W,an,au,aK,aG,bb,bC,bY,cK,di,aa _ ec⟩
 |iX K E e jr dL fx=>
  have cb:∀W as,i3 β' W as (pz r dL)↔i3 β W as dL:=λW as=>by
   cases dL with
   |none=>exact Iff.rfl
   |some q=>obtain⟨i,t⟩:=q;cases i<;>simp only[i3,pz,V]
  simp only[aU,cn.cH,V,cb]at h ⊢;rcases h with q|⟨r,es,clock,W,as,an,au,aK,aG,bb,bC,bY,cK⟩
  ·exact .inl q
  ·exact .inr ⟨r,es,clock,W,as,an,au,aK,aG,bb,bC,aa _ bY,cK⟩
theorem cn.Mp{r s:Nat→Nat}(h:∀x,s (r x)=x):∀o:cn,(o.cH r).cH s=o
 |.cells T cs=>by simp only[cn.cH,zU h cs]
 |.slice ..=>rfl
 |.map ..=>rfl
 |.win ..=>rfl
 |.k4 ..=>rfl
 |.gj ..=>rfl
 |.iter cT _ _ _=>by simp only[cn.cH,h cT]
 |.hdr cT _=>by simp only[cn.cH,h cT]
 |.cS ..=>rfl
 |.gZ T xs t=>by simp only[cn.cH,h t]
 |.ig ..=>rfl
 |.vec ..=>rfl
 |.fV T e n none=>by simp only[cn.cH,pz,h e]
 |.fV T e n (some (i,t))=>by simp only[cn.cH,pz,h e,h t]
 |.iX K E e jr none fx=>by simp only[cn.cH,pz,h e]
 |.iX K E e jr (some (i,t)) fx=>by simp only[cn.cH,pz,h e,h t]
theorem gi.cH{P:Program}{f:FuncId}{hR:Y}{args:List U}{ho:U→Y→Prop}(h:gi P f hR args ho)(r s:Nat→Nat)(pf:∀x,s (r x)=x)(qT:∀x,r (s x)=x):
    gi P f (hR.cH r) (py r args) (λa az=>∃a0 nh,ho a0 nh∧a=a0.cH r∧az=nh.cH r):=by
  intro cx w I β vs aq ax;have fA:∀x y,r x=r y→x=y:=λx y e=>by rw[←pf x,←pf y,e]
  have jJ:bS ⟨P,0,hR.ids⟩ {cx with u7:=λx=>cx.u7 (r x)} I (λx=>β (r x)) hR w:=
    {good:=aq.good,h9:=aq.h9,ja:=aq.ja,iL:=aq.iL,frame:=aq.frame,size:=aq.size,tape:=aq.tape,os:=aq.os,output:=aq.output,drawn:=aq.drawn
     cB:=λd o Z=>by
        have h1:=aq.cB (r d) (o.cH r) (by rw[Y.CG pf,Z];rfl);have D:=aU.cH (cx:=cx) (r:=s) (β:=β) (β':=λx=>β (r x)) (λx=>by show β (r (s x))=β x;rw[qT]) (nu:={cx with u7:=λx=>cx.u7 (r x)}) (λb V=>V) h1
        rwa [pf,cn.Mp pf]at D
     dn:=λd eD Z dw ct b V=>aq.dn (r d) (r eD) (by rw[Y.CG pf];simpa using Z) (by rw[Y.CG pf];simpa using dw) (λe=>ct (fA _ _ e)) b V
     keep:=λd Z=>aq.keep (r d) (by show r d∈(hR.cH r).ids;rw[Y.NT];exact List.mem_map_of_mem Z)}
  have oE:bO I (λx=>β (r x)) args vs:=by
    have:=yd (r:=s) (β':=λx=>β (r x)) (p:=λ_=>false) (λx _=>by show β (r (s x))=β x;rw[qT]) (py r args) vs (vU (λ_=>rfl) _) ax
    rwa [zU pf]at this
  refine Calls.mono (h _ w I _ vs jJ oE) ?_;rintro e w' ⟨v,rfl,a,az,aS,β',aB,jg,eS⟩;refine⟨v,rfl,a.cH r,az.cH r,aS,λx=>β' (s x),⟨a,az,aB,rfl,rfl⟩,Ms (r:=r) (p:=λ_=>false) (λx _=>by show β' (s (r x))=β' x;rw[pf]) a v (LN (λ_=>rfl) a) jg,?_⟩
  have lZ:∀d,(az.cH r).get d=(az.get (s d)).map (·.cH r):=λd=>by
    have:=Y.CG pf az (s d)
    rwa [qT]at this
  exact{good:=eS.good,h9:=eS.h9,ja:=eS.ja,iL:=eS.iL,frame:=eS.frame,size:=eS.size,tape:=eS.tape,os:=eS.os,output:=eS.output,drawn:=eS.drawn
        cB:=λd o Z=>by
            rw[lZ]at Z;obtain⟨eG,bJ,rfl⟩:=Option.map_eq_some_iff.1 Z;have:=aU.cH (cx:={cx with u7:=λx=>cx.u7 (r x)}) (r:=r) (β:=β') (β':=λx=>β' (s x)) (λx=>by show β' (s (r x))=β' x;rw[pf]) (nu:=cx) (λb V=>V) (eS.cB (s d) eG bJ)
            rwa [qT]at this
        dn:=λd eD Z dw ct b V=>by
            rw[lZ]at Z dw;exact eS.dn (s d) (s eD) (by simpa using Z) (by simpa using dw) (λe=>ct (by rw[←qT d,←qT eD,e])) b V
        keep:=λd Z=>by
            have:s d∈hR.ids:=by
              have Z:d∈(hR.cH r).ids:=Z;rw[Y.NT]at Z;obtain⟨x,u,rfl⟩:=List.mem_map.1 Z;rw[pf];exact u
            have:=eS.keep (s d) this;show β' (s d)=_;rw[this];show cx.u7 (r (s d))=_;rw[qT]}
def swp(a b x:Nat):Nat:=bif Nat.beq x a then b else bif Nat.beq x b then a else x
theorem NU(a b x:Nat):swp a b (swp a b x)=x:=by
 have e:∀ay v:Nat,Nat.beq ay v=decide (ay=v):=λay v=>by rw[Bool.eq_iff_iff];simp
 simp only[swp,e];by_cases h1:x=a
 ·subst h1;by_cases D:b=x
  ·subst D;simp
  ·simp[D]
 ·by_cases D:x=b
  ·subst D;simp[h1]
  ·simp[h1,D]
def pH:List (Nat×Nat)→Nat→Nat
 |[],x=>x
 |(a,b)::r,x=>swp a b (pH r x)
def Ax:List (Nat×Nat)→Nat→Nat
 |[],x=>x
 |(a,b)::r,x=>Ax r (swp a b x)
theorem NC:∀(l:List (Nat×Nat)) (x:Nat),Ax l (pH l x)=x
 |[],x=>rfl
 |(a,b)::r,x=>by simp only[pH,Ax,NU,NC r]
theorem Uu:∀(l:List (Nat×Nat)) (x:Nat),pH l (Ax l x)=x
 |[],x=>rfl
 |(a,b)::r,x=>by simp only[pH,Ax,Uu r,NU]
theorem gi.at{P:Program}{f:FuncId}{hR:Y}{args:List U}{ho:U→Y→Prop}(h:gi P f hR args ho)(l:List (Nat×Nat)):
  gi P f (hR.cH (pH l)) (py (pH l) args) (λa az=>∃a0 nh,ho a0 nh∧a=a0.cH (pH l)∧az=nh.cH (pH l)):=
 h.cH (pH l) (Ax l) (NC l) (Uu l)
theorem Uv{I:bw}{β β':Nat→Value}{b:U}{post:List U}:∀(pre:List U) (vs:List Value) {a:U},bO I β (pre++a::post) vs→(∀x v,x∈pre∨x∈post→ar I β x v→ar I β' x v)→(∀v,ar I β a v→ar I β' b v)→bO I β' (pre++b::post) vs
 |[],vs,a,h,h1,D=>by
  simp only[List.nil_append,bO]at h ⊢;obtain⟨ay,bF,rfl,an,au⟩:=h;have key:∀(l:List U) (vs:List Value),(∀x∈l,x∈post)→bO I β l vs→bO I β' l vs:=by
   intro l;induction l with
   |nil=>intro _ _ h;exact h
   |cons x r bD=>
    intro vs hm h;simp only[bO]at h ⊢;obtain⟨ay,bF,rfl,bU,cG⟩:=h;exact⟨ay,bF,rfl,h1 x ay (.inr (hm x (by simp))) bU,bD bF (λy ah=>hm y (by simp[ah])) cG⟩
  exact⟨ay,bF,rfl,D ay an,key post bF (λx u=>u) au⟩
 |x::r,vs,a,h,h1,D=>by
  simp only[List.cons_append,bO]at h ⊢;obtain⟨ay,bF,rfl,an,au⟩:=h;exact⟨ay,bF,rfl,h1 x ay (.inl (by simp)) an,Uv r bF au (λy v ah=>h1 y v (ah.imp (λh=>by simp[h]) id)) D⟩
theorem Uw{p:Nat→Bool}:∀{l:List U},nE p l=false→∀x∈l,x.refs p=false
 |[],_,x,h=>by simp at h
 |y::r,h,x,u=>by
  simp only[nE,Bool.or_eq_false_iff]at h;rcases List.mem_cons.1 u with rfl|u
  ·exact h.1
  ·exact Uw h.2 x u
theorem b8.ZU{G:cq}{env:ai}{σ:Y}(d0 d:Nat)(T:TypeId)(sz:Nat)(aV:TypeId)(pre post:List U)(bJ:σ.get d0=some (.cells aV (pre++.cV::post)))(ct:Nat.beq d0 d=false)(hi:G.ids.contains d=false)(aa:env.clean (Nat.beq d)=true)(W:σ.clean (Nat.beq d)=true):
  b8 G env σ env ((d,.slice T sz [] 0 false)::σ.set d0 (.cells aV (pre++.own d::post))):=λcx I β a w h dc=>by
 let β':Nat→Value:=λx=>if x=d then .slice none 0 0 else β x
 have ct:d0≠d:=λe=>by subst e;simp at ct
 have V:∀x,Nat.beq d x=false→β' x=β x:=λx u=>by
  have:x≠d:=λe=>by subst e;simp at u
  show(if x=d then _ else β x)=_;rw[if_neg this]
 have eT:β' d=.slice none 0 0:=by show(if d=d then _ else _)=_;rw[if_pos rfl]
 have gy:∀x,x≠d→Y.get ((d,.slice T sz [] 0 false)::σ.set d0 (.cells aV (pre++.own d::post))) x=if x=d0 then some (.cells aV (pre++.own d::post))else σ.get x:=λx u=>by
  rw[Y.c4,if_neg (Ne.symm u),Y.hU,bJ];rfl
 have Sz:∀x,x≠d→(Y.get ((d,.slice T sz [] 0 false)::σ.set d0 (.cells aV (pre++.own d::post))) x).isSome→(σ.get x).isSome:=λx u W=>by
  rw[gy x u]at W;split at W
  ·rename_i e;subst e;rw[bJ];rfl
  ·exact W
 refine⟨I,β',{h with cB:=λx o e=>?_,dn:=λx y ex sX n5 b=>?_,keep:=λx u=>?_},λay=>?_⟩
 ·by_cases u:x=d
  ·subst u;rw[Y.c4,if_pos rfl]at e;cases e;simp only[aU,eT];exact .inr (.inl ⟨trivial,trivial,trivial⟩)
  ·rw[gy x u]at e;split at e
   ·rename_i cw;subst cw;cases e
    have aj:=h.cB x _ bJ;obtain⟨bk,bZ⟩:=Y.iu W x _ bJ;simp only[nw]at bZ;simp only[aU,V x bk]at aj ⊢;rcases aj with q|⟨b,arr,aA,e2,b6,cQ⟩
    ·exact .inl q
    ·refine .inr ⟨b,arr,aA,e2,Uv pre _ b6 (λy v ah ax=>td V y v ?_ ax) (λv af=>?_),cQ⟩
     ·exact Uw bZ y (by rcases ah with ah|ah<;>simp[ah])
     ·simp only[ar,aO]at af;simp only[ar,af,eT,iy,and_self]
   ·obtain⟨bk,bZ⟩:=Y.iu W x o e;exact(h.cB x o e).beta V bk bZ
 ·by_cases u:x=d
  ·subst u;rw[eT];simp[GC]
  ·by_cases ah:y=d
   ·subst ah;rw[eT];simp[GC]
   ·rw[V x (by rw[←Bool.not_eq_true,Nat.beq_eq];exact Ne.symm u),V y (by rw[←Bool.not_eq_true,Nat.beq_eq];exact Ne.symm ah)];exact h.dn x y (Sz x u ex) (Sz y ah sX) n5 b
 ·have:d≠x:=λe=>by subst e;simp at hi;exact hi u
  rw[V x (by rw[←Bool.not_eq_true,Nat.beq_eq];exact this)];exact h.keep x u
 ·exact td V _ _ (ai.iu aa ay) (dc ay)
end Go.Proofs.YtmnbolcmepihlaaGreat
namespace Go.Proofs.YtmnbolcmepihlaaGreat
set_option linter.all false
open Go
theorem bS.stay{G:cq}{cx:eO}{I:bw}{β:Nat→Value}{σ:Y}{w w':World}(h:bS G cx I β σ w)(hk:∀b,b<w.heap.size→w'.heap[b]?=w.heap[b]?)(W:w.heap.size≤w'.heap.size)(bB:w'.tape=w.tape)(aj:w'.os=w.os)(hu:w'.output=w.output)(hdr:w.drawn≤w'.drawn):bS G cx I β σ w':=by
  have fz:gn w w' w.heap.size:=⟨λk _ bQ=>hk k bQ,W,bB,aj,hu,hdr⟩
  exact{good:=λb o v af=>by
            have h1:=h.good b o v af;have bQ:b<w.heap.size:=World.block_lt_of_cell? w _ h1;rw[World.cell?_of_block (w:=w) (hk b bQ)];exact h1
        h9:=λb v af=>by
            obtain⟨es,clock,h1,D⟩:=h.h9 b v af;exact⟨es,clock,by rw[hk b (gV h1)];exact h1,D⟩
        ja:=h.ja,iL:=h.iL
        frame:=λb V hm=>by rw[hk b (Nat.lt_of_lt_of_le V h.size)];exact h.frame b V hm
        size:=Nat.le_trans h.size W,tape:=bB.trans h.tape,os:=aj.trans h.os,output:=hu.trans h.output,drawn:=Nat.le_trans h.drawn hdr
        cB:=λd o Z=>(h.cB d o Z).keep fz rfl (λe=>by have:=h.qa Z e;omega) (b7.refl I) (λ_ _ _=>rfl) (g0.refl β)
        dn:=h.dn,keep:=h.keep}
mutual
def U.jO:U→Bool
 |.int _ _=>true
 |.bool _=>true
 |.str _=>true
 |.undef=>true
 |.cD cs=>oe cs
 |.agg cs=>oe cs
 |_=>false
def oe:List U→Bool
 |[]=>true
 |x::r=>x.jO&&oe r
end
mutual
theorem ar.jO{I aS:bw}{β β':Nat→Value}:∀(a:U) (v:Value),a.jO=true→ar I β a v→ar aS β' a v
 |.int _ _,v,_,h=>by simpa only[ar,aO]using h
 |.bool _,v,_,h=>by simpa only[ar,aO]using h
 |.str _,v,_,h=>by simpa only[ar,aO]using h
 |.undef,v,_,h=>by simpa only[ar,aO]using h
 |.cD cs,v,W,h=>by
  simp only[ar,U.jO]at h W ⊢;obtain⟨vs,h1,D⟩:=h;exact⟨vs,h1,bO.jO cs _ W D⟩
 |.agg cs,v,W,h=>by
  simp only[ar,U.jO]at h W ⊢;obtain⟨vs,h1,D⟩:=h;exact⟨vs,h1,bO.jO cs _ W D⟩
 |.gq,_,W,_|.aX _ _,_,W,_|.fP _,_,W,_|.fn _ _,_,W,_|.cV,_,W,_|.mm,_,W,_|.own _,_,W,_|.ptr _ _,_,W,_|.dm _,_,W,_|.gp _ _,_,W,_|.kD,_,W,_|.fm _ _,_,W,_=>by simp[U.jO]at W
theorem bO.jO{I aS:bw}{β β':Nat→Value}:∀(a:List U) (v:List Value),oe a=true→bO I β a v→bO aS β' a v
 |[],v,_,h=>h
 |x::r,v,W,h=>by
  simp only[bO,oe,Bool.and_eq_true]at h W ⊢;obtain⟨ay,bF,h1,D,ak⟩:=h;exact⟨ay,bF,h1,ar.jO x ay W.1 D,bO.jO r bF W.2 ak⟩
end
theorem KL{I:bw}{sz:Nat}:∀(xs:List (List U)) (i:Nat),(∀e∈xs,e.length=sz)→i<xs.length→∃A B,xs.flatten=A++xs.getD i []++B∧A.length=i*sz∧(∀cw,(xs.set i cw).flatten=A++cw++B)
 |[],_,_,h=>by simp at h
 |e::r,0,aJ,_=>⟨[],r.flatten,by simp,by simp,by simp⟩
 |e::r,i+1,aJ,h=>by
  obtain⟨A,B,h1,D,ak⟩:=KL (I:=I) r i (λx u=>aJ x (by simp[u])) (by simpa using h);refine⟨e++A,B,by simp[h1],?_,by simp[ak]⟩;rw[List.length_append,D,aJ e (by simp),Nat.add_mul];omega
section ops
variable {G:cq}{o:Oper}{env:ai}{σ:Y}{x y:Operand}
theorem bG.Iy{gH:Operand}{args:Array Operand}{k:Array TypeId}{f:FuncId}{aF cO ps:List U}{σs:Y}{r:U}(h:o.op=.call ⟨.value gH,args,k⟩)(be:env.ev gH=.fn f aF)
  (nG:∀(args:Array Value) (w:World),(callFunc f args).run G.P w=.ok (.enter f args) w) (cE:ef G.P f [] cO r) (aB:env.nI args.toList=some ps) (aC:jD (σs.freeze σs.ids) (ps++aF) cO) (W:qn σ σs)
  (ax:r.jO=true):Yields G o env.ev σ [] σs.ids r:=by
 intro az cx I β w aP b2 aq _ hop;have iO:=hop gH (by simp[h,Op.operands,Call.operands]);rw[be]at iO;simp only[ar]at iO;obtain⟨vs,iO,mF⟩:=iO;rw[zT h iO nG]
 have jq:∀d o,σs.get d=some o→az.get d=some o:=λd o Z=>by
  obtain⟨p,bU,cG,dP⟩:=p8 σs d o Z;rw[b2 d (by rw[←cG];exact List.mem_map.2 ⟨p,bU,rfl⟩),←cG,←dP];exact W.mem p bU
 obtain⟨DN,hle,jJ⟩:=(aq.sub jq).CV σs.ids;have lB:=pQ _ _ _ _ (v2 env.ev aP args.toList λx u=>hop x (by simp only[h,Op.operands,Call.operands];simp;right;simpa using u)) mF;rw[ai.v7 aB]at lB;have sn:=aC.rep jJ _ (rT hle (g0.refl β) _ _ lB);have fA:=jJ.w5 (P:=G.P) (dB:=[]) (by simp);refine Calls.mono (cE _ w DN β _ fA sn) ?_;rintro e w' ⟨v,he,r',σ2,aS,β',⟨oE,jR⟩,jg,eS⟩;subst oE jR;have ki:bS G cx I β az w':=aq.stay (λb V=>eS.frame b V (by simp[mE,te,Y.ids])) eS.size eS.tape eS.os eS.output eS.drawn;exact⟨v,he,I,β,ar.jO r' v ax jg,ki,b7.refl I,λ_ _=>rfl⟩
theorem bG.ZV{α:Type}[Inhabited α]{T E sz d aW n:Nat}{k:IntKind}{i:Int}{cU:Bool}(rs:List α)(enc:α→List U)(h:o.op=.indexAddr T x y)(u:env.ev x=.own d)(ah:env.ev y=.int k i)(Z:σ.get d=some (.slice aW sz (rs.map enc) n cU))(aH:jh G.P T E sz)
  (hi:0≤i∧i<rs.length):Yields G o env.ev σ [] [d] (.ptr d (i.toNat*sz)):=
 .pure λaz cx I β w aP b2 aq hop=>by
  have h1:=hop x (by simp[h,Op.operands]);rw[u]at h1
  have D:=hop y (by simp[h,Op.operands]);rw[ah]at D;have D:=iH D
  simp only[ar]at h1;obtain⟨h1,W⟩:=h1;have b3:=aq.cB d _ (by rw[b2 d (by simp)];exact Z);simp only[aU,List.length_map]at b3;have bQ:i.toNat<rs.length:=by omega
  rcases b3 with q|⟨_,q,_⟩|⟨b,aF,arr,an,au,_⟩
  ·rw[h1,q]at W;simp[iy]at W
  ·have:rs=[]:=by simpa using q
   subst this;simp at bQ
  ·refine⟨.pointer (some ⟨b,i.toNat*sz,none⟩),?_,by simp only[ar];exact⟨b,by rw[an];rfl,rfl⟩⟩;have aA:∀w,(underlying T).run G.P w=.ok (.slice E) w:=λw=>by simp[underlying,program,Sem.run,aH.gv]
   rw[an]at h1;simp[execOp,h,h1,D,Instr.indexAt,asIntOf,aA,hi,aH.size,kJ]
theorem Uj{G:cq}{cx:eO}{I:bw}{β:Nat→Value}{σ:Y}{w:World}(aq:bS G cx I β σ w){d T sz k b:Nat}{cU:Bool}{xs:List (List U)}(Z:σ.get d=some (.slice T sz xs k cU))(V:bV (β d)=some b):
  ∃aF arr,β d=.slice (some ⟨b,0,none⟩) xs.length aF∧xs.length≤aF∧aF≤maxLen∧w.heap[b]?=some (.cells arr T (0,0))∧arr.size=aF*sz∧b9 I xs.flatten (arr.toList.take (xs.length*sz))∧(∀e∈xs,e.length=sz)∧k≤xs.length∧
   (cU=true→∀o,o<xs.length*sz→I b o=arr[o]?)∧(∀o,k*sz≤o→I b o=none)∧Place cx b∧bO I β (xs.flatten++List.replicate (arr.size-xs.length*sz) .gq) arr.toList:=by
 have aj:=aq.cB d _ Z;simp only[aU]at aj;rcases aj with q|⟨q,_⟩|⟨aN,aF,arr,an,au,aK,aG,bb,bC,bY,cK,di,ec,e3⟩
 ·rw[q]at V;simp[bV]at V
 ·rw[q]at V;simp[bV]at V
 ·have:aN=b:=by rw[an]at V;simpa [bV]using V
  subst this;refine⟨aF,arr,an,au,aK,aG,bb,bC,bY,cK,di,ec,e3,?_⟩;have e:arr.toList=arr.toList.take (xs.length*sz)++arr.toList.drop (xs.length*sz):=(List.take_append_drop _ _).symm;rw[e];refine pQ _ _ _ _ (b9.rep β _ _ bC) ?_;have aM:∀(l:List Value),bO I β (List.replicate l.length .gq) l:=by
   intro l;induction l with
   |nil=>simp[bO]
   |cons v r bD=>simp only[List.length_cons,List.replicate_succ,bO];exact⟨v,r,rfl,by simp[ar],bD⟩
  have:=aM (arr.toList.drop (xs.length*sz));simpa using this
theorem bG.ab1{α:Type}[Inhabited α]{T aW:TypeId}{n d p sz k off:Nat}{cU dr:Bool}{i:Int}(rs:List α)(enc:α→List U)(h:o.op=.load T x)(u:env.ev x=.ptr d p)(Z:σ.get d=some (.slice aW sz (rs.map enc) k cU))(aB:p=i.toNat*sz+off)
  (hi:0≤i∧i<rs.length) (aH:dM G.P T n dr) (bJ:(dr||Nat.blt 0 n)=true) (aT:Nat.ble (off+n) sz=true) {a:U} (aC:nK dr n ((enc (el rs i)).drop off)=some a):Yields G o env.ev σ [] [d] a:=
 .pure λaz cx I β w aP b2 aq hop=>by
  have aT:off+n≤sz:=by simpa using aT
  have h1:=hop x (by simp[h,Op.operands]);rw[u]at h1
  simp only[ar]at h1;obtain⟨b,h1,D⟩:=h1;obtain⟨aF,arr,an,au,aK,aG,bb,bC,bY,cK,di,ec,e3,oW⟩:=Uj aq (by rw[b2 d (by simp)];exact Z) h1;have bQ:i.toNat<rs.length:=by omega
  obtain⟨A,B,dF,dO,_⟩:=KL (I:=I) (rs.map enc) i.toNat bY (by simpa using bQ);have lZ:(rs.map enc).getD i.toNat []=enc (el rs i):=by
   simp[List.getD_eq_getElem?_getD,bQ,el]
  rw[lZ]at dF;have hz:(enc (el rs i)).length=sz:=bY _ (by rw[←lZ,List.getD_eq_getElem?_getD,List.getElem?_eq_getElem (by simpa using bQ)];exact List.getElem_mem _)
  obtain⟨v,hr,hl⟩:=FE aH (λe=>by subst e;simpa using bJ) (off:=p) aG oW (by
   rw[dF];simp only[List.length_append,dO,hz];omega)
  refine⟨v,by simp[execOp,h,D,Instr.loadAt,Instr.sureAddr,hr],?_⟩;have e:((List.map enc rs).flatten++List.replicate (arr.size-(List.map enc rs).length*sz) U.gq).drop p=(enc (el rs i)).drop off++(B++List.replicate (arr.size-(List.map enc rs).length*sz) U.gq):=by
   rw[dF,aB,List.append_assoc,List.append_assoc,←List.drop_drop,←dO,List.drop_left,List.drop_append_of_le_length (by omega)]
  rw[e]at hl;have e2:nL dr n ((enc (el rs i)).drop off++(B++List.replicate (arr.size-(List.map enc rs).length*sz) U.gq))=nL dr n ((enc (el rs i)).drop off):=by
   have aJ:n≤((enc (el rs i)).drop off).length:=by simp;omega
   cases dr with
   |true=>simp only[nL,cond_true];rw[List.take_append_of_le_length aJ]
   |false=>
    simp only[nL,cond_false];have Sl:0<n:=by simpa using bJ
    cases aa:(enc (el rs i)).drop off with
    |nil=>rw[aa]at aJ;simp at aJ;omega
    |cons z t=>rfl
  rw[e2,Ds aC]at hl;exact hl
theorem Lk{I:bw}{β:Nat→Value}{a:List U}{v:List Value}(aa:kL a=true)(h:bO I β a v):b9 I a v:=bO.closed a v aa h
theorem en.ZW{α:Type}[Inhabited α]{T aW d p sz k off n:Nat}{cU dr:Bool}{a:U}{ca:List U}{i:Int}{ev:Operand→U}(rs:List α)(enc:α→List U)(r':α)(h:o.op=.store T x y)(u:ev x=.ptr d p)(ah:ev y=a)(Z:σ.get d=some (.slice aW sz (rs.map enc) k cU))(aB:p=i.toNat*sz+off)
  (hi:0≤i∧i<rs.length) (hk:(k:Int)≤i) (aH:dM G.P T n dr) (be:a.flat=true) (vC:q2 a=some ca) (hJ:kL ca=true) (aT:Nat.beq ca.length n=true) (aJ:Nat.ble (off+n) sz=true) (ax:iw (enc (el rs i)) off ca=enc r') :
  g8 G o ev σ [d] [] (λr az=>r=.undef∧az=σ.set d (.slice aW sz ((rs.set i.toNat r').map enc) k false)):=by
 intro cx I β w aP aq hop;have aT:ca.length=n:=by simpa using aT
 have aJ:off+n≤sz:=by simpa using aJ
 have h1:=hop x (by simp[h,Op.operands]);rw[u]at h1
 have D:=hop y (by simp[h,Op.operands]);rw[ah]at D
 simp only[ar]at h1;obtain⟨b,h1,ak⟩:=h1;obtain⟨aF,arr,an,au,aK,aG,bb,bC,bY,cK,di,ec,e3,oW⟩:=Uj aq Z h1;obtain⟨f1,f2⟩:=U.CX be D;rw[zN vC]at f1;have hQ:=qN _ _ f1;have bQ:i.toNat<rs.length:=by omega
 obtain⟨A,B,dF,dO,s3⟩:=KL (I:=I) (rs.map enc) i.toNat bY (by simpa using bQ);have lZ:(rs.map enc).getD i.toNat []=enc (el rs i):=by simp[List.getD_eq_getElem?_getD,bQ,el]
 rw[lZ]at dF;have hz:(enc (el rs i)).length=sz:=bY _ (by rw[←lZ,List.getD_eq_getElem?_getD,List.getElem?_eq_getElem (by simpa using bQ)];exact List.getElem_mem _);have ahZ:(enc r').length=sz:=by rw[←ax];simp only[iw,List.length_append,List.length_take,List.length_drop,hz];omega
 simp only[List.length_map]at an au bb bC cK;have jH:i.toNat*sz+sz≤rs.length*sz:=by
  have:=Nat.mul_le_mul_right sz (show i.toNat+1≤rs.length from bQ)
  rwa [Nat.add_mul,Nat.one_mul]at this
 have anY:rs.length*sz≤arr.size:=by rw[bb];exact Nat.mul_le_mul_right sz au
 have ki:=Fb (P:=G.P) aG (aP y).cells.toList (off:=p) (by omega) f2;have Kz:(aP y).cells.size=ca.length:=by simpa using hQ
 have eX:(execOp aP o).run G.P w=.ok .skip (w.setRow b (iw arr.toList p (aP y).cells.toList).toArray):=by
  have aA:¬((aP y).cells.size≠n):=by omega
  simp[execOp,h,ak,Instr.storeAt,Instr.sureAddr,storeVar,aH.size,aA,ki]
 rw[eX];refine⟨.undef,_,I,β,⟨rfl,rfl⟩,by simp[ar,aO],?_,b7.refl I,λ_ _=>rfl,λx u=>by rw[Y.hU,if_neg (by simpa using u)]⟩;have anL:k*sz≤p:=by
  have:k≤i.toNat:=by omega
  have:=Nat.mul_le_mul_right sz this;omega
 refine aq.turn (d:=d) (gn.setRow w b _) e3 (λx u=>by rw[Y.hU,if_neg u]) (λx u W e=>aq.dn x d W (by rw[Z];rfl) u b e (je h1)) (b7.refl I) (λ_ _ _=>rfl)
  (λo v af=>?_) (aq.rV aG) (λ_ _=>rfl) (.inr rfl) (g0.refl β) (.inl h1) λaI b3=>?_
 ·
  have aj:o<k*sz:=by
   by_cases aj:o<k*sz
   ·exact aj
   ·rw[ec o (by omega)]at af;cases af
  have bl:=aq.good b o v af;simp only[World.cell?,aG]at bl;simp only[World.cell?,setRow_heap w b arr _ aW _ aG];simp only[Option.isSome_none,Bool.false_eq_true,if_false]at bl ⊢;rw[←bl];have:o<p:=by omega
  simp only[iw,List.getElem?_toArray];rw[List.append_assoc,List.getElem?_append_left (by simp;omega),List.getElem?_take,if_pos this,Array.getElem?_toList]
 ·rw[Y.hU,if_pos rfl,Z]at b3;injection b3 with b3
  subst b3;simp only[aU,List.length_map,List.length_set];refine .inr (.inr ⟨b,aF,_,an,au,aK,setRow_heap w b arr _ aW _ aG,?_,?_,?_,cK,(λh=>by cases h),ec,e3⟩)
  ·simp only[iw,List.size_toArray,List.length_append,List.length_take,List.length_drop,Array.length_toList];omega
  ·have agv:=Lk (I:=I) hJ f1;have key:((rs.set i.toNat r').map enc).flatten=A++(iw (enc (el rs i)) off ca)++B:=by
    rw[List.map_set,s3,ax]
   rw[key];rw[dF]at bC;obtain⟨iT,jK,aA,hr,hl⟩:=(lN _ _ _).1 bC;obtain⟨sJ,apc,e2,oZ,pK⟩:=(lN _ _ _).1 hr;have m1:=nv _ _ oZ;have m2:=nv _ _ pK;have aiq:=nv _ _ hl;have cQ:enc (el rs i)=(enc (el rs i)).take off++((enc (el rs i)).drop off):=(List.take_append_drop _ _).symm;rw[cQ]at pK;obtain⟨tP,apd,fo,wL,uS⟩:=(lN _ _ _).1 pK;have ais:=nv _ _ wL;have jX:(enc (el rs i)).drop off=((enc (el rs i)).drop off).take n++(enc (el rs i)).drop (off+n):=by
    rw[←List.drop_drop];exact(List.take_append_drop _ _).symm
   rw[jX]at uS;obtain⟨LB,u8,kK,aiU,aiV⟩:=(lN _ _ _).1 uS;have ait:=nv _ _ aiU;have aiw:tP.length=off:=by rw[ais,List.length_take];omega
   have aix:LB.length=n:=by rw[ait,List.length_take,List.length_drop];omega
   have mo:(iw arr.toList p (aP y).cells.toList).take (rs.length*sz)=sJ++(tP++(aP y).cells.toList++u8)++jK:=by
    have aC:arr.toList=(sJ++(tP++(LB++u8))++jK)++arr.toList.drop (rs.length*sz):=by
     conv=>lhs;rw[←List.take_append_drop (rs.length*sz) arr.toList]
     rw[aA,e2,fo,kK]
    have dR:(sJ++tP).length=p:=by rw[List.length_append,m1,aiw,dO,aB]
    have n1:(aP y).cells.toList.length=n:=by rw[hQ,aT]
    have r7:iw arr.toList p (aP y).cells.toList=(sJ++tP)++(aP y).cells.toList++(u8++(jK++arr.toList.drop (rs.length*sz))):=by
     unfold iw;rw[n1];have uh:arr.toList=(sJ++tP)++(LB++(u8++(jK++arr.toList.drop (rs.length*sz)))):=by
      conv=>lhs;rw[aC]
      simp only[List.append_assoc]
     have t1:arr.toList.take p=sJ++tP:=by rw[uh,←dR,List.take_left]
     have t2:arr.toList.drop (p+n)=u8++(jK++arr.toList.drop (rs.length*sz)):=by
      rw[←List.drop_drop]
      conv=>lhs;rw[uh]
      rw[←dR,List.drop_left,←aix,List.drop_left]
     rw[t1,t2]
    rw[r7];have eF:((sJ++tP)++(aP y).cells.toList++(u8++jK)).length=rs.length*sz:=by
     have hY:=congrArg List.length (aA.trans (by rw[e2,fo,kK]));simp only[List.length_take,List.length_append,Array.length_toList]at hY;simp only[List.length_append,n1];omega
    have:(sJ++tP)++(aP y).cells.toList++(u8++(jK++arr.toList.drop (rs.length*sz)))=((sJ++tP)++(aP y).cells.toList++(u8++jK))++arr.toList.drop (rs.length*sz):=by simp
    rw[this,←eF,List.take_left];simp
   rw[mo];refine(lN _ _ _).2 ⟨_,_,rfl,(lN _ _ _).2 ⟨_,_,rfl,oZ,?_⟩,hl⟩;unfold iw;rw[aT];exact(lN _ _ _).2 ⟨_,_,rfl,(lN _ _ _).2 ⟨_,_,rfl,wL,agv⟩,aiV⟩
  ·intro e he;obtain⟨z,i6,rfl⟩:=List.mem_map.1 he;rcases List.mem_or_eq_of_mem_set i6 with i6|rfl
   ·exact bY _ (List.mem_map_of_mem i6)
   ·exact ahZ
end ops
end Go.Proofs.YtmnbolcmepihlaaGreat
namespace Go.Proofs.YtmnbolcmepihlaaGreat
set_option linter.all false
open Go
section
variable {P:Program}{w:World}{d:Nat}{xs bu:Array Value}{f:Field}{kO:List Field}{T off:Nat}{r:Bool}
theorem Yi:(Op.eqFields d xs bu []).run P w=.ok true w:=rfl
theorem NV{k eM:IntKind}{a b:Int}(be:(f.name== "_",f.type,f.offset)=(false,T,off))(hz:∀w,(isAgg T).run P w=.ok false w)(aH:P.underlying T=some (.int eM))(u:xs[off]?=some (.int k a))(ah:bu[off]?=some (.int k b))
  (h:(Op.eqFields (d+1) xs bu kO).run P w=.ok r w):(Op.eqFields (d+1) xs bu (f::kO)).run P w=.ok (decide (a=b)&&r) w:=by
 simp only[Prod.mk.injEq]at be;obtain⟨h1,D,ak⟩:=be;have h1:f.name≠ "_":=by simpa using h1
 simp only[Op.eqFields,D,ak,if_pos h1];have aiO:(part T xs off).run P w=.ok (.int k a) w:=by simp[part,hz,Array.getElem!_eq_getD,Array.getD_eq_getD_getElem?,u]
 have aiP:(part T bu off).run P w=.ok (.int k b) w:=by simp[part,hz,Array.getElem!_eq_getD,Array.getD_eq_getD_getElem?,ah]
 simp only[Sem.run_bind,aiO,aiP,Result.andThen_ok,run_equalIn_int w d T k eM a b aH];by_cases e:a=b
 ·simp[e,h]
 ·simp[e]
theorem TJ{l:List Field}{x:Bool×Nat×Nat}{r:List (Bool×Nat×Nat)}(h:l.map (λf=>(f.name== "_",f.type,f.offset))=x::r):∃f t,l=f::t∧(f.name== "_",f.type,f.offset)=x∧t.map (λf=>(f.name== "_",f.type,f.offset))=r:=by
 cases l with
 |nil=>simp at h
 |cons f t=>simp only[List.map_cons,List.cons.injEq]at h;exact⟨f,t,rfl,h.1,h.2⟩
theorem VT{l:List Field}(h:l.map (λf=>(f.name== "_",f.type,f.offset))=[]):l=[]:=by simpa using h
end
theorem A.late{G:cq}{c:Code}{Q:Exit→ai→Y→Prop}{env:ai}{σ:Y}(h:aY G c (λe env σ=>∃dx σ2,b8 G env σ dx σ2∧Q e dx σ2) env σ):aY G c Q env σ:=by
 refine aY.of λcx a w ax=>wp_mono (aY.use h cx a w ax) ?_;rintro e e8 w' ⟨gm,az,oD,dx,σ2,aq,bR⟩;exact⟨dx,σ2,aq.rel oD,bR⟩
theorem Yj{α:Type}(enc:α→List U)(h:∀r,(enc r).all U.one=true)(l:List α):(l.map enc).flatten.all U.one=true:=by
 induction l with
 |nil=>rfl
 |cons x r bD=>rw[List.map_cons,List.flatten_cons,List.all_append,h x,bD];rfl
theorem bW.slice{α:Type}{G:cq}{o:Oper}{env:ai}{σ:Y}{T E sz:Nat}{x:Operand}{f:Bool}{lo hi:Option Operand}(rs:List α)(enc:α→List U)(a b:Nat)(h:o.op=.slice T x lo hi none)(u:hP σ (env.ev x) (.aX f (rs.map enc)))(aH:jh G.P T E sz)(eF:∀r,(enc r).length=sz)
  (kz:k6 env.ev lo=(a:Int)) (EO:pG env.ev rs.length hi=(b:Int)) (vT:tj env.ev lo) (Cs:tj env.ev hi) (iN:a≤b∧b≤rs.length) (R:List Nat) (b2:∀az:Y,(∀d∈R,az.get d=σ.get d)→hP az (env.ev x) (.aX f (rs.map enc))) :
  Yields G o env.ev σ [] R (.aX false (((rs.take b).drop a).map enc)):=by
 have EO:pG env.ev (rs.map enc).length hi=(b:Int):=by rw[List.length_map];exact EO
 have:=bG.slice (G:=G) h u aH (λe he=>by obtain⟨r,_,rfl⟩:=List.mem_map.1 he;exact eF r) vT Cs (by rw[kz,EO,List.length_map];omega) R b2;rw[kz,EO,Int.toNat_natCast,Int.toNat_natCast]at this
 rwa [List.map_drop,List.map_take]
theorem hd{P:Program}{T f off n M0:Nat}{dr:Bool}{kO:Array Field}(hu:P.underlying T=some (.struct kO))(be:(kO[f]?).map (λg=>(g.type,g.offset))=some (M0,off))(bB:dM P M0 n dr)(aB:dr=false→n=1):gE P T f off n dr where
 pos:=aB
 run:=λcs w h=>by
  cases bl:kO[f]? with
  |none=>rw[bl]at be;cases be
  |some g=>
   rw[bl]at be;simp only[Option.map_some,Option.some.injEq,Prod.mk.injEq]at be;simp only[Instr.field,Sem.run_bind,run_underlying hu,Result.andThen_ok,bl,be.1,be.2,asAgg,Sem.run_pure];cases dr with
   |true=>simp[part,bB.agg,bB.size]
   |false=>
    have:=aB rfl;subst this;simp[part,bB.agg,Array.getD_eq_getD_getElem?,Array.getElem?_eq_getElem (show off<cs.size by omega)]
end Go.Proofs.YtmnbolcmepihlaaGreat
namespace Go.Proofs.YtmnbolcmepihlaaGreat
set_option linter.all false
open Go
section win
variable {G:cq}{o:Oper}{ev:Operand→U}{σ:Y}
theorem aU.ab2{cx:eO}{I:bw}{β:Nat→Value}{w:World}{d T sz k:Nat}{xs:List (List U)}(h:aU cx I β w d (.slice T sz xs k true))(hk:k=xs.length):aU cx I β w d (.win T sz xs):=by
 simp only[aU]at h ⊢;rcases h with q|⟨q,au,_⟩|⟨b,aF,arr,an,au,aK,aG,bb,bC,bY,cK,di,ec,e3⟩
 ·exact .inl q
 ·exact .inr (.inl ⟨q,au⟩)
 ·refine .inr (.inr ⟨b,0,aF,arr,an,au,aK,aG,λ_=>by omega,?_,bY,λ_ o aj=>ec o (by rw[hk];omega),e3⟩);refine x2 xs 0 _ bC λj v af=>?_;rw[Nat.zero_add];rw[List.getElem?_take]at af;split at af
  ·rename_i bQ;rw[di trivial j bQ];simpa using af
  ·cases af
theorem b8.win{env:ai}{d T sz k:Nat}{xs:List (List U)}(Z:σ.get d=some (.slice T sz xs k true))(hk:k=xs.length):b8 G env σ env (σ.set d (.win T sz xs)):=λcx I β a w h dc=>by
 refine⟨I,β,{h with cB:=λx aI u=>?_,dn:=λx y u ah=>?_},dc⟩
 ·rw[Y.hU]at u;split at u
  ·rename_i e;subst e;rw[Z]at u;cases u;exact(h.cB _ _ Z).ab2 hk
  ·exact h.cB x aI u
 ·have:∀x,(Y.get (σ.set d (.win T sz xs)) x).isSome→(σ.get x).isSome:=λx u=>by
   rw[Y.hU]at u;split at u
   ·rename_i e;subst e;rw[Z];rfl
   ·exact u
  exact h.dn x y (this x u) (this y ah)
theorem en.ZX{T E sz aW d d2:Nat}{x:Operand}{lo:Option Operand}{xs:List (List U)}(h:o.op=.slice T x lo none none)(u:ev x=.own d)(Z:σ.get d=some (.win aW sz xs))(aH:jh G.P T E sz)(vT:tj ev lo)
  (kz:0≤k6 ev lo∧k6 ev lo≤xs.length) (hi:G.ids.contains d2=false) (aa:(σ.minus [d]).clean [d2].contains=true) :
  g8 G o ev σ [d,d2] [d2] (λr az=>r=.own d2∧az=(d2,.win aW sz (xs.drop (k6 ev lo).toNat))::σ.minus [d]):=by
 intro cx I β w aP aq hop;have eP:=hop x (by simp[h,Op.operands]);rw[u]at eP;simp only[ar]at eP;obtain⟨eP,eA⟩:=eP;generalize aJ:k6 ev lo=l at kz ⊢;have jJ:bS G cx I β (σ.minus [d]) w:=aq.sub λx aI u=>by rw[Y.jW]at u;split at u<;>first|cases u|exact u
 have lE:=jJ.oS (dD:=[d2]) (σ2:=(d2,.win aW sz (xs.drop l.toNat))::σ.minus [d]) (env:=[]) ⟨λx u=>by rw[Y.c4,if_neg (λe=>u (by simp[e]))],λx u=>by simp at u;subst u;simpa using hi,rfl,aa,λx u cT n h=>by simp at u;subst u;rw[Y.c4,if_pos rfl]at h;cases h⟩;have gy:∀x,x≠d2→gF β [d2] x=β x:=λx u=>by simp[gF,u]
 have aj:=aq.cB d _ Z;simp only[aU]at aj;have run:∀(a:Option Addr) (c:Nat),aP x=.slice a xs.length c→xs.length≤c→(execOp aP o).run G.P w=.ok (.value (.slice (if c=l.toNat then a else a.map (·.add (l.toNat*sz))) (xs.length-l.toNat) (c-l.toNat))) w:=by
  intro a c h1 D;have aA:(Instr.sliceBounds true xs.length c (lo.map aP) none none).run G.P w=.ok (l.toNat,xs.length,c) w:=by
   cases lo with
   |none=>
    simp only[k6]at aJ;subst aJ;simp[Instr.sliceBounds]
   |some y=>
    obtain⟨k,n,an,au⟩:=yu vT (hop y (by simp[h,Op.operands]));simp only[k6,an]at aJ;subst aJ;have:=run_sliceBound (P:=G.P) (k:=k) (code:=.sliceB) (w:=w) kz;simp[Instr.sliceBounds,au,this]
  have e2:∀w,(underlying T).run G.P w=.ok (.slice E) w:=λw=>run_underlying aH.gv w;simp only[execOp,h,Instr.sliceAt,Instr.slice,h1,Sem.run_bind,e2,Result.andThen_ok,aA,aH.size,Sem.run_pure,Option.map_none]
 have fin:∀(dI:Value),(execOp aP o).run G.P w=.ok (.value dI) w→iy dI=true→(∀b∈dA dI,b∈dA (β d))→aU cx I (g9 β d2 dI) w d2 (.win aW sz (xs.drop l.toNat))→
   kM G.P (λv w'=>∃(bE:U) (az:Y) (aS:bw) (β':Nat→Value),(bE=.own d2∧az=(d2,cn.win aW sz (xs.drop l.toNat))::σ.minus [d])∧ar aS β' bE v∧bS G cx aS β' az w'∧b7 I aS∧(∀x,x∉[d2]→β' x=β x)∧(∀x,x∉[d,d2]→az.get x=σ.get x)) ((execOp aP o).run G.P w):=by
  intro dI eX hT eT b3;rw[eX];refine⟨.own d2,_,I,g9 β d2 dI,⟨rfl,rfl⟩,by simp only[ar,g7,hT,and_self],?_,b7.refl I,λx u=>gU β dI (by simpa using u),λx u=>?_⟩
  ·have hJ:∀x aI,(σ.minus [d]).get x=some aI→x≠d2∧nw [d2].contains aI=false:=λx aI u=>by
    obtain⟨bk,bZ⟩:=Y.iu aa x aI u;exact⟨by simpa using bk,bZ⟩
   have zj:∀x,[d2].contains x=false→g9 β d2 dI x=β x:=λx u=>gU β dI (by simpa using u);refine{jJ with cB:=λx aI u=>?_,dn:=λx y u ah ct b=>?_,keep:=λx u=>?_}
   ·rw[Y.c4]at u;split at u
    ·rename_i e;subst e;cases u;exact b3
    ·obtain⟨bk,bZ⟩:=Y.iu aa x aI u;exact(jJ.cB x aI u).beta zj bk bZ
   ·have tM:∀x,(Y.get ((d2,cn.win aW sz (xs.drop l.toNat))::σ.minus [d]) x).isSome→x≠d2→(σ.get x).isSome∧x≠d:=λx u aT=>by
     rw[Y.c4,if_neg (Ne.symm aT),Y.jW]at u;split at u
     ·cases u
     ·rename_i hm;exact⟨u,by simpa using hm⟩
    by_cases gb:x=d2
    ·subst gb;have pk:y≠x:=λe=>ct e.symm;obtain⟨dF,dO⟩:=tM y ah pk;rw[g7,gU β dI pk];intro aA e2;exact aq.dn y d dF (by rw[Z];rfl) dO b e2 (eT b aA)
    ·obtain⟨dF,dO⟩:=tM x u gb;rw[gU β dI gb];by_cases pk:y=d2
     ·subst pk;rw[g7];intro aA e2;exact aq.dn x d dF (by rw[Z];rfl) dO b aA (eT b e2)
     ·obtain⟨t1,t2⟩:=tM y ah pk;rw[gU β dI pk];exact aq.dn x y dF t1 ct b
   ·have:x≠d2:=λe=>by subst e;rw[←Bool.not_eq_true]at hi;exact hi (by simpa using u)
    rw[gU β dI this];exact aq.keep x u
  ·have u:x≠d∧x≠d2:=by simpa using u
   rw[Y.c4,if_neg (Ne.symm u.2),Y.jW,if_neg (by simpa using u.1)]
 rcases aj with q|⟨q,rfl⟩|⟨b,eG,aF,arr,an,au,aK,aG,bb,bC,bY,cK,di⟩
 ·rw[q]at eP;rw[eP]at eA;simp[iy]at eA
 ·have JW:l=0:=by simp at kz;omega
  subst JW;refine fin _ (run none 0 (by rw[eP,q];rfl) (by simp)) rfl (by simp[dA,bV]) ?_;simp only[aU,g7];exact .inr (.inl ⟨by simp,by simp⟩)
 ·have vI:l.toNat≤xs.length:=by omega
  refine fin _ (run _ aF (by rw[eP,an]) au) rfl ?_ ?_
  ·intro aN hf;rw[an];split at hf
   ·exact hf
   ·simp only[Option.map_some,kJ]at hf;exact hf
  ·simp only[aU,g7];have eF:(xs.drop l.toNat).length=xs.length-l.toNat:=by simp
   refine .inr (.inr ?_);by_cases hJ:aF=l.toNat
   ·have EU:xs.drop l.toNat=[]:=List.drop_eq_nil_of_le (by omega);refine⟨b,eG,aF-l.toNat,arr,by rw[if_pos hJ,eF],by rw[eF];omega,by omega,aG,λcb=>by omega,by rw[EU];trivial,by rw[EU];simp,λcb=>by omega,di⟩
   ·refine⟨b,eG+l.toNat*sz,aF-l.toNat,arr,?_,by rw[eF];omega,by omega,aG,λcb=>?_,FL _ _ _ bY bC,λe he=>bY e (List.mem_of_mem_drop he),λcb o aj=>?_,di⟩
    ·rw[if_neg hJ,eF];simp[kJ]
    ·rw[eF]at cb;have:=bb (by omega);have e:eG+l.toNat*sz+(aF-l.toNat)*sz=eG+aF*sz:=by
      rw[Nat.add_assoc,←Nat.add_mul];congr 2;omega
     omega
    ·rw[eF]at cb aj;refine cK (by omega) o ?_;have e:eG+l.toNat*sz+(xs.length-l.toNat)*sz=eG+xs.length*sz:=by
      rw[Nat.add_assoc,←Nat.add_mul];congr 2;omega
     omega
theorem Tf{I:bw}{b sz:Nat}:∀{xs bu:List (List U)} {o:Nat},(∀e∈xs,e.length=sz)→(iG I b (xs++bu) o↔iG I b xs o∧iG I b bu (o+xs.length*sz))
 |[],bu,o,_=>by simp[iG]
 |x::r,bu,o,h=>by
  simp only[List.cons_append,iG,List.length_cons];rw[Tf (λe he=>h e (by simp[he])),h x (by simp),Nat.add_mul,Nat.one_mul,and_assoc,Nat.add_assoc,Nat.add_comm sz]
theorem ajx{P:Program}(w:World)(t ty e:TypeId)(i:TypeInfo)(bB:P.underlying t=some (.slice e))(hi:P.info? e=some i)
  (g off yx Lf:Nat) (rP:Array Value) (bl:w.heap[g]?=some (.cells rP e (0,0)))
  (a:Addr) (m c:Nat) (news:List Value) (aJ:news.length=m*i.size) (p2:∀j ay,news[j]?=some ay→w.cell? (a.add j)=some ay) (h1:∀ay∈news,ay.oneCell'=true)
  (pe:yx+m≤Lf) (uj:off+yx*i.size+news.length≤rP.size) :
  (Builtin.append_ #[t,t] ty #[.slice (some ⟨g,off,none⟩) yx Lf,.slice (some a) m c]).run P w =
   .ok (.slice (some ⟨g,off,none⟩) (yx+m) Lf) (w.setRow g (rP.toList.take (off+yx*i.size)++news++rP.toList.drop (off+yx*i.size+news.length)).toArray):=by
 have be:=run_firstCells_some (P:=P) w i.size m a m c news aJ p2;have ki:=run_storeCells_at P g (off+yx*i.size) e news 0 rP w bl (by simpa using uj) h1;simp only[Nat.add_zero]at ki;simp[Builtin.append_,run_underlying bB,Go.sizeOf,typeInfo,hi,Builtin.lenOf,pe,be,kJ,ki]
theorem en.Yk{s x:Operand}{T E sz bytes d d2 aW:Nat}{f:Bool}{xs bu:List (List U)}(h:o.op=.call ⟨.builtin .append,#[s,x],#[T,T]⟩)(W:ev s=.own d)(Z:σ.get d=some (.win aW sz xs))(u:hP σ (ev x) (.aX f bu))(aH:jE G.P T E sz bytes)(hv:aW=E)
  (qV:∀e∈bu,e.length=sz) (h1:bu.flatten.all U.one=true) (V:(xs.length+bu.length)*bytes≤140737488355328) (oz:xs.length+bu.length≤maxLen) (hi:G.ids.contains d2=false)
  (aa:(σ.minus [d]).clean [d2].contains=true) :
  g8 G o ev σ [d,d2] [d2] (λr az=>r=.own d2∧az=(d2,.win aW sz (xs++bu))::σ.minus [d]):=by
 subst hv;intro cx I β w aP aq hop;have eP:=hop s (by simp[h,Op.operands,Call.operands]);rw[W]at eP;simp only[ar]at eP;obtain⟨eP,eA⟩:=eP;have cI:=u.rep aq _ (hop x (by simp[h,Op.operands,Call.operands]));simp only[ar,aO]at cI;obtain⟨a,c,cI,gb,lF,_,pg⟩:=cI;obtain⟨i,z,hh,i6,iR,nC,ul⟩:=aH.info;have p2:∃news:List Value,b9 I bu.flatten news∧(bu.length=0∨∃ad:Addr,a=some ad∧∀j ay,news[j]?=some ay→w.cell? (ad.add j)=some ay):=by
  rcases pg with rfl|⟨b,o,rfl,ax⟩
  ·exact⟨[],rfl,.inl rfl⟩
  ·obtain⟨vs,an,au⟩:=zJ aq.good bu o ax;exact⟨vs,an,.inr ⟨_,rfl,λj ay hu=>by rw[kJ];exact au j ay hu⟩⟩
 obtain⟨news,p1,mj⟩:=p2;have jQ:news.length=bu.length*sz:=by rw[nv _ _ p1];exact vS bu qV
 have pa:=Ut _ _ h1 p1;have kA:xs.length+bu.length≤9223372036854775807:=by simp only[maxLen]at oz;omega
 have jJ:bS G cx I β (σ.minus [d]) w:=aq.sub λx aI u=>by rw[Y.jW]at u;split at u<;>first|cases u|exact u
 have lE:=jJ.oS (dD:=[d2]) (σ2:=(d2,.win aW sz (xs++bu))::σ.minus [d]) (env:=[]) ⟨λx u=>by rw[Y.c4,if_neg (λe=>u (by simp[e]))],λx u=>by simp at u;subst u;simpa using hi,rfl,aa,λx u cT n h=>by simp at u;subst u;rw[Y.c4,if_pos rfl]at h;cases h⟩;have gy:∀x,x≠d2→gF β [d2] x=β x:=λx u=>by simp[gF,u]
 have fin:∀(dI:Value) (w':World) (b:Nat) (aS:bw),(execOp aP o).run G.P w=.ok (.value dI) w'→iy dI=true→gn w w' b→Place cx b→(∀x,((σ.minus [d]).get x).isSome→b∉dA (β x))→
   b7 I aS→(∀aN,aN≠b→∀o,aS aN o=I aN o)→
   (∀(o:Nat) v,aS b o=some v→w'.cell? ⟨b,o,none⟩=some v)→aS b none=none→(bV dI=some b∨dA dI=[])→aU cx aS (g9 β d2 dI) w' d2 (.win aW sz (xs++bu))→
   kM G.P (λv w'=>∃(bE:U) (az:Y) (aS:bw) (β':Nat→Value),(bE=.own d2∧az=(d2,cn.win aW sz (xs++bu))::σ.minus [d])∧ar aS β' bE v∧bS G cx aS β' az w'∧b7 I aS∧(∀x,x∉[d2]→β' x=β x)∧(∀x,x∉[d,d2]→az.get x=σ.get x)) ((execOp aP o).run G.P w):=by
  intro dI w' b aS eX hT hk aB nA hle gR yt xT eT b3;rw[eX];refine⟨.own d2,_,aS,g9 β d2 dI,⟨rfl,rfl⟩,by simp only[ar,g7,hT,and_self],?_,hle,λx u=>gU β dI (by simpa using u),λx u=>?_⟩
  ·refine lE.turn (d:=d2) hk aB (λ_ _=>rfl) (λx u kA e=>?_) hle gR yt xT (λx u=>by rw[gU β dI u,gy x u]) (.inl (by simpa using hi)) (λx=>?_) (by rw[g7];exact eT) (λaI mJ=>?_)
   ·rw[Y.c4,if_neg (Ne.symm u)]at kA;rw[gy x u]at e;exact nA x kA e
   ·by_cases u:x=d2
    ·left;simp[gF,u]
    ·right;rw[gU β dI u,gy x u]
   ·rw[Y.c4,if_pos rfl]at mJ;injection mJ with mJ
    subst mJ;exact b3
  ·have u:x≠d∧x≠d2:=by simpa using u
   rw[Y.c4,if_neg (Ne.symm u.2),Y.jW,if_neg (by simpa using u.1)]
 have other:∀b,bV (β d)=some b→∀x,((σ.minus [d]).get x).isSome→b∉dA (β x):=λb eT x u e=>by
  rw[Y.jW]at u;split at u
  ·cases u
  ·rename_i mZ;exact aq.dn x d u (by rw[Z];rfl) (by simpa using mZ) b e (je eT)
 have rS:∀x,((σ.minus [d]).get x).isSome→w.heap.size∉dA (β x):=λx u e=>by
  obtain⟨aI,u⟩:=Option.isSome_iff_exists.1 u;exact absurd (jJ.qa u e) (by omega)
 have q0:∀lf,lf<xs.length+bu.length→xs.length+bu.length≤grownCap w (xs.length+bu.length) lf aW∧grownCap w (xs.length+bu.length) lf aW≤maxLen:=λlf _=>⟨grownCap_ge _ _ _ _,grownCap_le_maxLen _ _ _ _ oz⟩;have q1:∀aI,gn w (w.drew.alloc aI) w.heap.size:=λaI=>(gn.alloc w.drew aI).drew
 have OH:∀(hx:List Value) (aF:Nat),b9 I xs.flatten hx→hx.length=xs.length*sz→(∀e∈xs,e.length=sz)→xs.length+bu.length≤aF→aF≤maxLen→
   (execOp aP o).run G.P w=.ok (.value (.slice (some ⟨w.heap.size,0,none⟩) (xs.length+bu.length) aF)) (w.drew.alloc (.cells (hx.toArray++news.toArray++Builtin.zeroCells z.cells (aF-(xs.length+bu.length))) aW))→
   kM G.P (λv w'=>∃(bE:U) (az:Y) (aS:bw) (β':Nat→Value),(bE=.own d2∧az=(d2,cn.win aW sz (xs++bu))::σ.minus [d])∧ar aS β' bE v∧bS G cx aS β' az w'∧b7 I aS∧(∀x,x∉[d2]→β' x=β x)∧(∀x,x∉[d,d2]→az.get x=σ.get x)) ((execOp aP o).run G.P w):=by
  intro hx aF mG jG Cb s2 oB eX;have eF:(hx++news).length=(xs++bu).length*sz:=by rw[List.length_append,List.length_append,jG,jQ,Nat.add_mul]
  let aS:bw:=I.on λb o=>if b=w.heap.size then(hx++news)[o]? else I b o
  have hle:b7 I aS:=λb o v af=>by
   cases o with
   |none=>exact af
   |some o=>
   show(if b=w.heap.size then _ else I b o)=some v;split
   ·rename_i e;subst e;rw[aq.ic (Nat.le_refl _)]at af;cases af
   ·exact af
  have Ik:∀o:Nat,aS w.heap.size o=(hx++news)[o]?:=λo=>by show(if _ then _ else _)=_;rw[if_pos rfl]
  have Yl:(hx.toArray++news.toArray++Builtin.zeroCells z.cells (aF-(xs.length+bu.length))).toList=(hx++news)++(Builtin.zeroCells z.cells (aF-(xs.length+bu.length))).toList:=by simp
  refine fin _ _ w.heap.size aS eX rfl (q1 _) (.inl aq.size) rS hle (λaN hf o=>by cases o with|none=>rfl|some o=>show(if _ then _ else _)=_;rw[if_neg hf]) (λo v af=>?_) (aq.ic (Nat.le_refl _) none) (.inl rfl) ?_
  ·rw[Ik]at af;have qS:=heap_alloc_new w.drew (.cells (hx.toArray++news.toArray++Builtin.zeroCells z.cells (aF-(xs.length+bu.length))) aW);have qS:(w.drew.alloc (.cells (hx.toArray++news.toArray++Builtin.zeroCells z.cells (aF-(xs.length+bu.length))) aW)).heap[w.heap.size]?=some (.cells (hx.toArray++news.toArray++Builtin.zeroCells z.cells (aF-(xs.length+bu.length))) aW (0,0)):=qS;simp only[World.cell?,qS];have bQ:=(List.getElem?_eq_some_iff.1 af).1;have:((hx.toArray++news.toArray++Builtin.zeroCells z.cells (aF-(xs.length+bu.length))).toList)[o]?=some v:=by rw[Yl,List.getElem?_append_left bQ];exact af
   rw[Array.getElem?_toList]at this;exact this
  ·simp only[aU,g7];refine .inr (.inr ⟨w.heap.size,0,aF,_,by rw[List.length_append],by rw[List.length_append];exact s2,oB,heap_alloc_new w.drew _,λ_=>?_,?_,?_,λ_ o aj=>?_,.inl aq.size⟩)
   ·simp only[Array.size_append,List.size_toArray,size_zeroCells,ul,jG,jQ,←Nat.add_mul];rw[Nat.zero_add];refine Nat.mul_le_mul_right _ ?_;omega
   ·refine x2 _ 0 (hx++news) ?_ λj v af=>by rw[Nat.zero_add,Ik];exact af
    rw[List.flatten_append];exact mC hle _ _ ((lN _ _ _).2 ⟨_,_,rfl,mG,p1⟩)
   ·intro e he;rcases List.mem_append.1 he with he|he
    ·exact Cb e he
    ·exact qV e he
   ·rw[Ik,List.getElem?_eq_none];rw[eF];omega
 have aj:=aq.cB d _ Z;simp only[aU]at aj;rcases aj with q|⟨q,rfl⟩|⟨b,eG,aF,arr,an,au,aK,aG,bb,bC,bY,cK,di⟩
 ·rw[q]at eP;rw[eP]at eA;simp[iy]at eA
 ·
  rcases Nat.eq_zero_or_pos bu.length with hm|hm
  ·have ah:bu=[]:=List.eq_nil_of_length_eq_zero hm;subst ah;refine fin (.slice none 0 0) w w.heap.size I (mQ h ?_) rfl ⟨λ_ _ _=>rfl,Nat.le_refl _,rfl,rfl,rfl,Nat.le_refl _⟩ (.inl aq.size) rS (b7.refl I) (λ_ _ _=>rfl) (λo v af=>by rw[aq.ic (Nat.le_refl _)]at af;cases af) (aq.ic (Nat.le_refl _) none) (.inr rfl) ?_
   ·rw[eP,cI,q];cases a<;>simp[Builtin.append_,run_underlying aH.gv,Go.sizeOf,typeInfo,hh,Builtin.lenOf,Builtin.firstCells,loadCells,loadCellsFrom]
   ·simp only[aU,g7];exact .inr (.inl ⟨trivial,rfl⟩)
  ·obtain⟨ad,rfl,kv⟩:=mj.resolve_left (by omega);have ax:=run_append_nil (P:=G.P) w T o.type aW i z aH.gv hh i6 ad bu.length c news (by rw[iR];exact jQ) kv hm (by simp at kA;omega) (by simp at V;rw[nC];omega);obtain⟨cF,cW⟩:=q0 0 (by simp;exact hm);simp only[List.length_nil,Nat.zero_add]at cF cW;have:=OH [] (grownCap w bu.length 0 aW) rfl (by simp) (by simp) (by simpa using cF) cW;refine this ?_;have jR:=ax;rw[←cI,show(Value.slice none 0 0)=aP s by rw[eP,q]]at jR;have:=mQ h jR;simpa using this
 ·have eT:bV (β d)=some b:=by rw[an];rfl
  by_cases pe:xs.length+bu.length≤aF
  ·rcases Nat.eq_zero_or_pos bu.length with hm|hm
   ·have ah:bu=[]:=List.eq_nil_of_length_eq_zero hm;subst ah;refine fin (.slice (some ⟨b,eG,none⟩) xs.length aF) w b I (mQ h ?_) rfl ⟨λ_ _ _=>rfl,Nat.le_refl _,rfl,rfl,rfl,Nat.le_refl _⟩ di (other b eT) (b7.refl I) (λ_ _ _=>rfl) (λo v af=>aq.good b o v af) (aq.rV aG) (.inl rfl) ?_
    ·rw[eP,cI,an];cases a<;>simp[Builtin.append_,run_underlying aH.gv,Go.sizeOf,typeInfo,hh,Builtin.lenOf,Builtin.firstCells,loadCells,loadCellsFrom,au,storeCells]
    ·simp only[aU,g7,List.append_nil];exact .inr (.inr ⟨b,eG,aF,arr,rfl,au,aK,aG,bb,bC,bY,cK,di⟩)
   ·obtain⟨ad,rfl,kv⟩:=mj.resolve_left (by omega);have bQ:xs.length<aF:=by omega
    have jH:=bb bQ;have uj:eG+xs.length*i.size+news.length≤arr.size:=by
     rw[iR,jQ,Nat.add_assoc,←Nat.add_mul];have:=Nat.mul_le_mul_right sz pe;omega
    have ax:=ajx (P:=G.P) w T o.type aW i aH.gv hh b eG xs.length aF arr aG ad bu.length c news (by rw[iR];exact jQ) kv pa pe uj;rw[iR]at ax uj;have pU:eG+xs.length*sz≤arr.toList.length:=by simp only[Array.length_toList];omega
    let aS:bw:=I.on λaN o=>if aN=b∧eG+xs.length*sz≤o∧o<eG+xs.length*sz+news.length then news[o-(eG+xs.length*sz)]? else I aN o
    have nA:=cK bQ
    have hle:b7 I aS:=λaN o v af=>by
     cases o with
     |none=>exact af
     |some o=>
     show(if aN=b∧_∧_ then _ else I aN o)=some v;split
     ·rename_i e;obtain⟨aA,e2,_⟩:=e;subst aA;rw[nA o e2]at af;cases af
     ·exact af
    have mo:∀o,((arr.toList.take (eG+xs.length*sz)++news++arr.toList.drop (eG+xs.length*sz+news.length)).toArray)[o]?=if o<eG+xs.length*sz then arr[o]? else if o<eG+xs.length*sz+news.length then news[o-(eG+xs.length*sz)]? else arr[o]?:=by
     intro o;have E0:(arr.toList.take (eG+xs.length*sz)).length=eG+xs.length*sz:=by rw[List.length_take,Nat.min_eq_left pU]
     rw[List.getElem?_toArray];by_cases bk:o<eG+xs.length*sz
     ·rw[if_pos bk,List.append_assoc,List.getElem?_append_left (by omega),List.getElem?_take,if_pos bk,Array.getElem?_toList]
     ·rw[if_neg bk];by_cases bZ:o<eG+xs.length*sz+news.length
      ·rw[if_pos bZ,List.getElem?_append_left (by rw[List.length_append,E0];omega),List.getElem?_append_right (by omega),E0]
      ·rw[if_neg bZ,List.getElem?_append_right (by rw[List.length_append,E0];omega),List.length_append,E0,List.getElem?_drop,Array.getElem?_toList];congr 1;omega
    refine fin _ _ b aS (mQ h (by rw[eP,cI,an];exact ax)) rfl (gn.setRow w b _) di (other b eT) hle (λaN hf o=>by cases o with|none=>rfl|some o=>show(if _ then _ else _)=_;rw[if_neg (λe=>hf e.1)]) (λo v af=>?_) (aq.rV aG) (.inl rfl) ?_
    ·simp only[World.cell?,setRow_heap w b arr _ aW _ aG];have:((arr.toList.take (eG+xs.length*sz)++news++arr.toList.drop (eG+xs.length*sz+news.length)).toArray)[o]?=some v:=by
      rw[mo]
      change (if b=b∧eG+xs.length*sz≤o∧o<eG+xs.length*sz+news.length then news[o-(eG+xs.length*sz)]? else I b o)=some v at af
      split at af
      ·rename_i e;rw[if_neg (by omega),if_pos e.2.2];exact af
      ·rename_i e;have bl:=aq.good b o v af;simp only[World.cell?,aG]at bl;have bl:arr[o]?=some v:=by simpa using bl
       split
       ·exact bl
       ·split
        ·rename_i bk bZ;exact absurd ⟨rfl,by omega,bZ⟩ e
        ·exact bl
     simpa using this
    ·simp only[aU,g7];refine .inr (.inr ⟨b,eG,aF,_,by rw[List.length_append],by rw[List.length_append];exact pe,aK,setRow_heap w b arr _ aW _ aG,λ_=>?_,?_,?_,λcb o aj=>?_,di⟩)
     ·have:(arr.toList.take (eG+xs.length*sz)++news++arr.toList.drop (eG+xs.length*sz+news.length)).length=arr.toList.length:=by
       simp only[List.length_append,List.length_take,List.length_drop];rw[Nat.min_eq_left pU];simp only[Array.length_toList]at pU ⊢;omega
      simp only[List.size_toArray,this,Array.length_toList];exact jH
     ·rw[Tf (λe he=>bY e he)];refine⟨xX hle _ _ _ bC,?_⟩;refine x2 bu _ news (mC hle _ _ p1) λj v af=>?_;have aM:=(List.getElem?_eq_some_iff.1 af).1;show(if b=b∧_∧_ then _ else _)=_;rw[if_pos ⟨rfl,by omega,by omega⟩,show eG+xs.length*sz+j-(eG+xs.length*sz)=j by omega];exact af
     ·intro e he;rcases List.mem_append.1 he with he|he
      ·exact bY e he
      ·exact qV e he
     ·rw[List.length_append,Nat.add_mul]at aj;show(if b=b∧_∧_ then _ else _)=_;rw[if_neg (by rw[jQ];omega)];exact nA o (by omega)
  ·
   have hm:0<bu.length:=by omega
   obtain⟨ad,rfl,kv⟩:=mj.resolve_left (by omega);obtain⟨hx,gd,ey⟩:=zJ aq.good xs eG bC;have r5:hx.length=xs.length*sz:=by rw[nv _ _ gd];exact vS xs bY
   have ax:=run_append_grow (P:=G.P) w T o.type aW i z aH.gv hh i6 ⟨b,eG,none⟩ xs.length aF hx (by rw[iR];exact r5) (λj v af=>by rw[kJ];exact ey j v af) ad bu.length c news (by rw[iR];exact jQ) kv (by omega) (by omega) (growslice_fits (by omega) (by rw[nC];exact V));obtain⟨cF,cW⟩:=q0 aF (by omega);exact OH _ _ gd r5 bY cF cW (mQ h (by rw[eP,cI,an];exact ax))
def Ay(d:Nat)(xs:List (List U))(ev:Operand→U)(x:Operand):U:=match ev x with
 |.own eD=>bif Nat.beq eD d then .aX false xs else .own eD
 |a=>a
theorem Uk{d:Nat}{xs:List (List U)}{ev:Operand→U}{x:Operand}(h:ev x=.own d):Ay d xs ev x=.aX false xs:=by simp[Ay,h]
theorem Wr{d:Nat}{xs:List (List U)}{ev:Operand→U}{x:Operand}{k:IntKind}{n:Int}(h:ev x=.int k n):Ay d xs ev x=.int k n:=by simp[Ay,h]
theorem Yields.win{G:cq}{o:Oper}{ev:Operand→U}{σ:Y}{bE:U}{d T sz:Nat}{xs:List (List U)}(Z:σ.get d=some (.win T sz xs))(h:Yields G o (Ay d xs ev) σ [] [] bE):Yields G o ev σ [] [d] bE:=
 λaz cx I β w aP b2 aq hm hop=>h az cx I β w aP (λx u=>by cases u) aq hm λx u=>by
  have bJ:=hop x u;unfold Ay;split
  ·rename_i eD he;rw[he]at bJ;cases V:Nat.beq eD d with
   |false=>exact bJ
   |true=>
    have:=Nat.eq_of_beq_eq_true V;subst this;exact aq.win (by rw[b2 _ (by simp)];exact Z) bJ
  ·exact bJ
end win
def iq(w:World):bw:=λb o=>match o with
 |some o=>w.cell? ⟨b,o,none⟩
 |none=>match w.heap[b]? with
  |some (.map es clock)=>some (od es clock)
  |_=>none
variable {w:World}
theorem CY(b:Nat)(o:Nat)(v:Value)(h:iq w b o=some v):w.cell? ⟨b,o,none⟩=some v:=h
theorem CQ(b:Nat)(v:Value)(h:iq w b none=some v):∃es clock,w.heap[b]?=some (.map es clock)∧v=od es clock:=by
 simp only[iq]at h;split at h
 ·rename_i es clock V;cases h;exact⟨es,clock,V,rfl⟩
 ·cases h
variable {I:bw}{cx:eO}{β:Nat→Value}
theorem bS.OI{G:cq}{σ:Y}(aq:bS G cx I β σ w):b7 I (iq w):=λb o v af=>by
 cases o with
 |some o=>exact aq.good b o v af
 |none=>
  obtain⟨es,clock,h1,rfl⟩:=aq.h9 b v af;simp only[iq,h1]
theorem bS.ZY{G:cq}{σ:Y}(aq:bS G cx I β σ w){b:Nat}{o:Option Nat}{v:Value}(af:I b o=some v):b<w.heap.size:=by
 rcases Nat.lt_or_ge b w.heap.size with h|h
 ·exact h
 ·rw[aq.ic h o]at af;cases af
end Go.Proofs.YtmnbolcmepihlaaGreat
