/- Several texts in one. No condition but those that stand in each. -/
import Derived.Test.YtmnbolcmepihlaaGreatAA
import Derived.Sort.Grow
import Derived.Laws.StructEq
namespace Go.Proofs.YtmnbolcmepihlaaGreat
set_option linter.all false
open Go
def Env.find:Env→Nat→Option AV
 |[],_=>none
 |(k,v)::r,n=>bif Nat.beq k n then some v else Env.find r n
theorem Env.fI:∀{env:Env} {t:Nat} {a:AV},env.find t=some a→env.get t=a
 |[],_,_,h=>by simp[Env.find]at h
 |(k,v)::r,t,a,h=>by
  simp only[Env.find]at h
  simp only[Env.get]
  cases hk:Nat.beq k t<;>rw[hk]at h
  ·exact Env.fI (env:=r) h
  ·simpa using h
def Env.evo(env:Env):Operand→Option AV
 |.tmp t=>env.find t
 |.const (.int k n)=>some (.int k n)
 |.const (.bool b)=>some (.bool b)
 |.const (.string s)=>some (.str s)
 |.const (.slice none 0 0)=>some .bw
 |.const v=>some (ij v)
 |.func f=>some (.fn f [])
 |.global _=>none
theorem Env.aA{env:Env}{x:Operand}{a:AV}(h:env.evo x=some a):env.ev x=a:=by
 unfold Env.evo at h
 split at h<;>first|exact Env.fI h|(simp only[Env.ev,ij];simpa using h)|(simp only[Env.ev];simpa using h)|cases h
def Env.kU(env:Env):List Operand→Option (List AV)
 |[]=>some []
 |x::r=>match env.evo x with
  |none=>none
  |some a=>match Env.kU env r with
   |none=>none
   |some l=>some (a::l)
theorem Env.mC{env:Env}:∀{xs:List Operand} {l:List AV},env.kU xs=some l→xs.map env.ev=l
 |[],l,h=>by simpa [Env.kU]using h
 |x::r,l,h=>by
  simp only[Env.kU]at h
  cases h1:env.evo x with
  |none=>rw[h1]at h;cases h
  |some a=>
   rw[h1]at h
   simp only at h
   cases h2:Env.kU env r with
   |none=>rw[h2]at h;cases h
   |some l'=>
    rw[h2]at h
    simp only[Option.some.injEq]at h
    subst h
    simp[Env.aA h1,Env.mC h2]
def Env.ov(env:Env):List (Nat×Operand)→Option (List (Nat×AV))
 |[]=>some []
 |(i,x)::r=>match env.evo x with
  |none=>none
  |some a=>match Env.ov env r with
   |none=>none
   |some l=>some ((i,a)::l)
theorem Env.o5{env:Env}:∀{xs:List (Nat×Operand)} {l:List (Nat×AV)},env.ov xs=some l→xs.map (λp=>(p.1,env.ev p.2))=l
 |[],l,h=>by simpa [Env.ov]using h
 |(i,x)::r,l,h=>by
  simp only[Env.ov]at h
  cases h1:env.evo x with
  |none=>rw[h1]at h;cases h
  |some a=>
   rw[h1]at h
   simp only at h
   cases h2:Env.ov env r with
   |none=>rw[h2]at h;cases h
   |some l'=>
    rw[h2]at h
    simp only[Option.some.injEq]at h
    subst h
    simp[Env.aA h1,Env.o5 h2]
def el{α:Type}[Inhabited α](l:List α)(i:Int):α:=l.getD i.toNat default
def spine{α:Type}:List α→Option (List α)
 |[]=>some []
 |x::r=>match spine r with
  |none=>none
  |some l=>some (x::l)
theorem jm{α:Type}:∀{xs l:List α},spine xs=some l→xs=l
 |[],l,h=>by simpa [spine]using h
 |x::r,l,h=>by
  simp only[spine]at h
  cases h2:spine r with
  |none=>rw[h2]at h;cases h
  |some l'=>
   rw[h2]at h
   simp only[Option.some.injEq]at h
   rw[←h,jm h2]
def kg:AV→Option (List AV)
 |.agg cs=>spine cs
 |a=>some [a]
theorem mD{a:AV}{cs:List AV}(h:kg a=some cs):gh a=cs:=by
 unfold kg at h
 split at h
 ·exact jm h
 ·rename_i hne
  simp only[Option.some.injEq]at h
  rw[←h]
  cases a<;>first|rfl|exact absurd rfl (hne _)
def ldO(ag:Bool)(n:Nat)(cs:List AV):Option AV:=
 match ag with
 |true=>match spine (cs.take n)with
  |none=>none
  |some l=>some (.agg l)
 |false=>match cs with
  |[]=>none
  |x::_=>some x
theorem tF{ag:Bool}{n:Nat}{cs:List AV}{a:AV}(h:ldO ag n cs=some a):kQ ag n cs=a:=by
 cases ag with
 |true=>
  simp only[ldO]at h
  cases h2:spine (cs.take n)with
  |none=>rw[h2]at h;cases h
  |some l=>
   rw[h2]at h
   simp only[Option.some.injEq]at h
   rw[←h,←jm h2];rfl
 |false=>
  cases cs with
  |nil=>simp[ldO]at h
  |cons x r=>simp only[ldO,Option.some.injEq]at h;rw[←h];rfl
def rP(pl:List (Nat×Nat))(cells:List AV):List (Nat×AV)→Option (List AV)
 |[]=>spine cells
 |(i,a)::rest=>match pl[i]? with
  |none=>none
  |some (off,size)=>match kg a with
   |none=>none
   |some ca=>bif Nat.beq ca.length size&&Nat.ble (off+ca.length) cells.length&&a.flat then
     (match spine (cG cells off ca)with
     |none=>none
     |some l=>rP pl l rest)else none
theorem zh(pl:List (Nat×Nat)):∀{parts:List (Nat×AV)} {cells out:List AV},rP pl cells parts=some out→qd pl cells parts=some out
 |[],cells,out,h=>by simp only[rP]at h;simp only[qd];rw[jm h]
 |(i,a)::rest,cells,out,h=>by
  simp only[rP]at h
  simp only[qd]
  cases hp:pl[i]? with
  |none=>rw[hp]at h;cases h
  |some os=>
   obtain⟨off,size⟩:=os
   rw[hp]at h
   simp only at h ⊢
   cases hc:kg a with
   |none=>rw[hc]at h;cases h
   |some ca=>
    rw[hc]at h
    simp only at h
    rw[mD hc]
    cases hb:(Nat.beq ca.length size&&Nat.ble (off+ca.length) cells.length&&a.flat)with
    |false=>rw[hb]at h;simp at h
    |true=>
     rw[hb]at h
     simp only[cond_true]at h ⊢
     cases hs:spine (cG cells off ca)with
     |none=>rw[hs]at h;cases h
     |some l=>
      rw[hs]at h
      simp only at h
      rw[jm hs]
      exact zh pl h
def jT(sz:Nat):Nat→List (Nat×AV)→Option (List (List AV))
 |_,[]=>some []
 |k,(i,a)::r=>match kg a with
  |none=>none
  |some ca=>bif Nat.beq i k&&Nat.beq ca.length sz&&a.flat then
    (match jT sz (k+1) r with
    |none=>none
    |some l=>some (ca::l))else none
theorem lP(sz:Nat):∀{parts:List (Nat×AV)} {k:Nat} {out:List (List AV)},jT sz k parts=some out→kI sz k parts=some out
 |[],k,out,h=>by simpa [jT,kI]using h
 |(i,a)::r,k,out,h=>by
  simp only[jT]at h
  simp only[kI]
  cases hc:kg a with
  |none=>rw[hc]at h;cases h
  |some ca=>
   rw[hc]at h
   simp only at h
   rw[mD hc]
   cases hb:(Nat.beq i k&&Nat.beq ca.length sz&&a.flat)with
   |false=>rw[hb]at h;simp at h
   |true=>
    rw[hb]at h
    simp only[cond_true]at h ⊢
    cases hf:jT sz (k+1) r with
    |none=>rw[hf]at h;cases h
    |some l=>
     rw[hf]at h
     simp only[Option.some.injEq]at h
     rw[lP sz hf,←h];rfl
def nB(σ:Sto):Sto→Prop
 |[]=>True
 |(d,o)::r=>σ.get d=some o∧nB σ r
theorem nB.mem{σ:Sto}:∀{σ2:Sto},nB σ σ2→∀p∈σ2,σ.get p.1=some p.2
 |[],_,p,h=>by simp at h
 |(d,o)::r,h,p,hp=>by
  rcases List.mem_cons.1 hp with rfl|hp
  ·exact h.1
  ·exact nB.mem h.2 p hp
def mE(σ:Sto)(env:Env):Env→Prop
 |[]=>True
 |(k,v)::r=>er σ (env.get k) v∧mE σ env r
theorem mE.mem{σ:Sto}{env:Env}:∀{bA:Env},mE σ env bA→∀p∈bA,er σ (env.get p.1) p.2
 |[],_,p,h=>by simp at h
 |(d,o)::r,h,p,hp=>by
  rcases List.mem_cons.1 hp with rfl|hp
  ·exact h.1
  ·exact mE.mem h.2 p hp
def uF(env:Env):Env→Prop
 |[]=>True
 |(k,v)::r=>env.find k=some v∧uF env r
theorem uF.yV{σ:Sto}{env:Env}:∀{bA:Env},uF env bA→mE σ env bA
 |[],_=>trivial
 |(k,v)::r,h=>⟨by rw[Env.fI h.1];exact .refl _,uF.yV h.2⟩
theorem er.of_eq{σ:Sto}{a b:AV}(h:a=b):er σ a b:=by subst h;exact .refl _
theorem aU.back{G:Gl}{env bA:Env}{σ σ2:Sto}(r s:Nat→Nat)(he:mE σ env (bA.ren s))(hs:nB σ (σ2.ren s))(hok:rL r s G.ids (bA.ren s) (σ2.ren s)=true)(h1:(bA.ren s).ren r=bA)(h2:(σ2.ren s).ren r=σ2):aU G env σ bA σ2:=by
 have:=(aU.drop (G:=G) he.mem hs.mem).trans (aU.ren r s hok)
 rwa [h1,h2]at this
section rules
variable {G:Gl}{env:Env}{σ:Sto}{Q:Exit→Env→Sto→Prop}{x y c:Code}
theorem aU.of{bA:Env}{σ2:Sto}(he:mE σ env bA)(hs:nB σ σ2):aU G env σ bA σ2:=aU.drop he.mem hs.mem
end rules
section steps
variable {G:Gl}{ops:Array Oper}{s:Sch}{log:List (Nat×List Nat)}{i:Nat}{l:List Nat}{env:Env}{σ:Sto}{K:Env→Sto→Prop}{o:Oper}{av:AV}
end steps
section ops
variable {G:Gl}{o:Oper}{env:Env}{σ:Sto}{a:AV}
theorem Z.move{x:Operand}(h:o.op=.move x)(hx:env.evo x=some a):Yields G o env.ev σ [] [] a:=by rw[←Env.aA hx];exact Y.move h
theorem Z.assign{x:Operand}(h:o.op=.assign x)(hx:env.evo x=some a):Yields G o env.ev σ [] [] a:=by rw[←Env.aA hx];exact Y.assign h
theorem Z.abq{c x y:Operand}{p:Bool}(h:o.op=.pick c x y)(hc:env.ev c=.bool p)(hp:p=true)(hx:env.evo x=some a):Yields G o env.ev σ [] [] a:=by rw[←Env.aA hx];exact Y.abq h hc hp
theorem Z.abr{c x y:Operand}{p:Bool}(h:o.op=.pick c x y)(hc:env.ev c=.bool p)(hp:p=false)(hx:env.evo y=some a):Yields G o env.ev σ [] [] a:=by rw[←Env.aA hx];exact Y.abr h hc hp
theorem Z.alloc{T d:Nat}{zs:List Value}{cs:List AV}(h:o.op=.alloc T)(hz:∀w,∃z,(zeroValue T).run G.P w=.ok z w∧z.cells=zs.toArray)(hc:lu zs=cs)(hi:G.ids.contains d=false):
  Yields G o env.ev ((d,.cells T cs)::σ) [d] [d] (.ptr d 0):=by subst hc;exact Y.alloc h hz hi
theorem Z.box{T d:Nat}{x:Operand}{cs:List AV}(h:o.op=.box T x)(hx:env.evo x=some a)(hf:a.flat=true)(hc:kg a=some cs)(hr:a.refs (Nat.beq d)=false)(hi:G.ids.contains d=false):
  Yields G o env.ev ((d,.cells T cs)::σ) [d] [d] (.ptr d 0):=Y.box h (Env.aA hx) hf (mD hc) hr hi
theorem Z.abt{T T':TypeId}{x:Operand}{n d p:Nat}{ag:Bool}{cs:List AV}(h:o.op=.load T x)(hx:env.ev x=.ptr d p)(hT:TyS G.P T n ag)(hd:σ.get d=some (.cells T' cs))(h0:(ag||Nat.blt 0 n)=true)(hn:Nat.ble (p+n) cs.length=true)(ha:ldO ag n (cs.drop p)=some a):
  Yields G o env.ev σ [] [d] a:=by rw[←tF ha];exact Y.abt h hx hd hT h0 hn
theorem Z.abu{T:TypeId}{x:Operand}{n:Nat}{ag:Bool}{cs:List AV}(h:o.op=.load T x)(hx:env.ev x=.cH cs)(hT:TyS G.P T n ag)(h0:(ag||Nat.blt 0 n)=true)(hn:Nat.ble n cs.length=true)(ha:ldO ag n cs=some a):
  Yields G o env.ev σ [] [] a:=by rw[←tF ha];exact Y.abu h hx hT h0 hn
theorem Z.build{T:TypeId}{parts:Array (Nat×Operand)}{zs:List Value}{pl:List (Nat×Nat)}{ps:List (Nat×AV)}{cs:List AV}(h:o.op=.build T parts)(hT:gy G.P T zs pl)(hp:env.ov parts.toList=some ps)
  (hf:rP pl (lu zs) ps=some cs):Yields G o env.ev σ [] [] (.agg cs):=Y.build h hT (by rw[Env.o5 hp];exact zh pl hf)
theorem Z.buildSlice{T E sz len:Nat}{parts:Array (Nat×Operand)}{zs:List Value}{ps:List (Nat×AV)}{xs:List (List AV)}(h:o.op=.buildSlice T len parts)(hT:gU G.P T E sz zs)(hl:parts.size=len)(hs:(Nat.ble (len*sz) 65536&&Nat.ble len 65536)=true)
  (hp:env.ov parts.toList=some ps) (hf:jT sz 0 ps=some xs) (hc:ee xs.flatten=true):Yields G o env.ev σ [] [] (.lst true xs):=
 Y.buildSlice h hT hl (by simpa using hs) (by rw[Env.o5 hp];exact lP sz hf) hc
theorem Z.makeFunc{f:FuncId}{cap:Array Operand}{l:List AV}(h:o.op=.makeFunc (.func f) #[] cap)(hl:env.kU cap.toList=some l):Yields G o env.ev σ [] [] (.fn f l):=by
 rw[←Env.mC hl];exact Y.makeFunc h
theorem Z.field{T f off n:Nat}{ag:Bool}{x:Operand}{cs:List AV}(h:o.op=.field T x f)(hx:env.ev x=.agg cs)(hT:ct G.P T f off n ag)(hn:Nat.ble (off+n) cs.length=true)(ha:ldO ag n (cs.drop off)=some a):Yields G o env.ev σ [] [] a:=by
 rw[←tF ha];exact Y.field h hx hT hn
theorem Z.call{fo:Operand}{args:Array Operand}{k:Array TypeId}{f:FuncId}{cap avs ps:List AV}{σs σc:Sto}{r:AV}(h:o.op=.call ⟨.value fo,args,k⟩)(hf:env.ev fo=.fn f cap)
  (iX:∀(args:Array Value) (w:World),(callFunc f args).run G.P w=.ok (.enter f args) w) (hro:RO G.P f σc avs r) (hp:env.kU args.toList=some ps) (ha:eS σs (ps++cap) avs) (hs:nB σ σs) (hc:nB σs σc)
  (hr:r.closed=true) (hcc:σc.clean (λd=>!(σc.ids++[]).contains d)=true):Yields G o env.ev σ [] σs.ids r:=
 Y.call h hf iX hs.mem (by rw[Env.mC hp];exact ha) hc.mem hro hr hcc
theorem Z.afI{fo:Operand}{args:Array Operand}{k:Array TypeId}{f:FuncId}{cap avs ps:List AV}{σc:Sto}{Post:AV→Sto→Prop}(news:List Nat)(h:o.op=.call ⟨.value fo,args,k⟩)(hf:env.ev fo=.fn f cap)
  (iX:∀(args:Array Value) (w:World),(callFunc f args).run G.P w=.ok (.enter f args) w) (hro:bM G.P f σc avs Post) (hp:env.kU args.toList=some ps) (ha:eS σ (ps++cap) avs) (hs:nB σ σc)
  (hn:news.all (λd=>!G.ids.contains d&&(σ.get d).isNone)=true) (hcl:(σ.minus σc.ids).clean news.contains=true)
  (hok:∀r σ2,Post r σ2→r.refs (λd=>!(σc.ids++news).contains d)=false∧σ2.clean (λd=>!(σc.ids++news).contains d)=true) :
  dM G o env.ev σ (σc.ids++news) news (λr σ'=>∃σ2,Post r σ2∧σ'=σ2++σ.minus σc.ids):=
 D.call news h hf iX hs.mem (by rw[Env.mC hp];exact ha) hro hn hcl hok
theorem Z.zg{T T' d p n:Nat}{ag:Bool}{x y:Operand}{cs ca cs':List AV}(h:o.op=.store T x y)(hx:env.ev x=.ptr d p)(hT:TyS G.P T n ag)(hy:env.evo y=some a)(hd:σ.get d=some (.cells T' cs))
  (hf:a.flat=true) (hca:kg a=some ca) (hn:Nat.beq ca.length n=true) (hl:Nat.ble (p+n) cs.length=true) (hs:spine (cG cs p ca)=some cs') :
  dM G o env.ev σ [d] [] (λr σ'=>r=.undef∧σ'=σ.set d (.cells T' cs')):=by
 rw[←jm hs,←mD hca]
 exact D.zg h hx (Env.aA hy) hd hT.size hf (by rw[mD hca];simpa using hn) (by simpa using hl)
theorem xw{n:Int}(h1 : -9223372036854775808≤n)(h2:n≤9223372036854775807):inK .i64 n:=by
 unfold inK;rw[IntKind.wrap_i64];omega
theorem RV.tmp{t:Nat}{a:AV}(h:env.find t=some a):mb G env σ (.tmp t) a:=by rw[←Env.fI h];exact .tmp t
theorem RV.cell{a T d T' n:Nat}{ag:Bool}{cs:List AV}{r:AV}(hT:TyS G.P T n ag)(ha:env.get a=.ptr d 0)(hd:σ.get d=some (.cells T' cs))(hn:Nat.beq cs.length n=true)(h0:(ag||Nat.blt 0 n)=true)(hr:ldO ag n cs=some r):mb G env σ (.cell a T) r:=by
 rw[←tF hr];exact .cell a T d T' n ag cs ha hd hT (by simpa using hn) (λe=>by subst e;simpa using h0)
end ops
end Go.Proofs.YtmnbolcmepihlaaGreat
namespace Go.Proofs.YtmnbolcmepihlaaGreat
set_option linter.all false
open Go
theorem eS.refl(σ:Sto):∀l:List AV,eS σ l l
 |[]=>.nil
 |x::r=>.cons (.refl x) (eS.refl σ r)
theorem Sto.oK:∀σ:Sto,σ.freeze []=σ
 |[]=>rfl
 |(d,o)::r=>by simp[Sto.freeze,Sto.oK r]
section
variable {G:Gl}{env:Env}{σ σ0:Sto}{o:Oper}{ev:Operand→AV}
theorem Z.convert{T T':TypeId}{x:Operand}{k k':IntKind}{n:Int}(h:o.op=.convert T T' x)(hx:ev x=.int k n)(hT:∃d,G.P.underlying T=some d)(hT':G.P.underlying T'=some (.int k'))(hn:inK k' n):Yields G o ev σ [] [] (.int k' n):=by
 have:=Y.convert (G:=G) (σ:=σ) (ev:=ev) h hx hT hT'
 rwa [show k'.wrap n=n from hn]at this
theorem Z.shr{T T':TypeId}{x y:Operand}{k k':IntKind}{m n:Int}(h:o.op=.binOp .shr T x y T')(hx:ev x=.int k m)(hy:ev y=.int k' n)(hn:0≤n∧n<k.bits):Yields G o ev σ [] [] (.int k (m / 2 ^ n.toNat)):=by
 have:=Y.shift (G:=G) (σ:=σ) (ev:=ev) (.inr rfl) h hx hy hn.1
 simp only at this
 rw[Nat.min_eq_left (by omega),Int.fdiv_eq_ediv_of_nonneg _ (Int.le_of_lt (Int.pow_pos (by decide)))]at this
 exact this
theorem agK{n:Int}(h1:0≤n)(h2:n≤18446744073709551615):inK .u64 n:=by
 unfold inK;simp only[IntKind.wrap,IntKind.bits,IntKind.signed];simp;omega
end
end Go.Proofs.YtmnbolcmepihlaaGreat
namespace Go.Proofs.YtmnbolcmepihlaaGreat
set_option linter.all false
open Go
def aO{α:Type}(l:List (Int×α))(n:Int):Option α:=(l.find? λp=>decide (p.1=n)).map (·.2)
def bt{α:Type}:List (Int×α)→Int→α→List (Int×α)
 |[],n,v=>[(n,v)]
 |p::r,n,v=>if p.1=n then(n,v)::r else p::bt r n v
def bB{α:Type}(k:IntKind)(enc:α→AV)(l:List (Int×α)):List (AV×AV):=l.map λp=>(.int k p.1,enc p.2)
theorem kV{I:Imm}{α:Type}{k:IntKind}{enc:α→AV}(n:Int):∀(l:List (Int×α)) (es:List MapEntry) (i:Nat) (a:α),cC I (bB k enc l) es→aO l n=some a→
  ∃j v,Instr.findNow (.int k) (.int k n) es i=some (some (i+j,v))∧ak I (enc a) v∧∃e,es[j]?=some e∧e.key=.int k n∧
   ∀(b:α) (u:Value) (kk:MapEntry→MapEntry),ak I (enc b) u→(∀e,(kk e).key=.int k n∧(kk e).val=u)→cC I (bB k enc (bt l n b)) (es.modify j kk)
 |[],es,i,a,h,hg=>by simp[aO]at hg
 |(m,b)::r,es,i,a,h,hg=>by
  simp only[bB,List.map_cons,cC]at h
  obtain⟨e,us,rfl,h1,h2,h3⟩:=h
  simp only[ak]at h1
  by_cases hm:m=n
  ·subst hm
   simp only[aO,List.find?,decide_true,Option.map_some,Option.some.injEq]at hg
   subst hg
   refine⟨0,e.val,?_,h2,e,rfl,h1,?_⟩
   ·simp[Instr.findNow,Instr.sameNow,h1]
   ·intro c u kk hu hk
    simp only[bt,if_pos,bB,List.map_cons,cC,List.modify_zero_cons]
    exact⟨kk e,us,rfl,by simp only[ak];exact(hk e).1,by rw[(hk e).2];exact hu,h3⟩
  ·have hg':aO r n=some a:=by simpa [aO,List.find?,hm]using hg
   obtain⟨j,v,q1,q2,e',q3,q4,q5⟩:=kV n r us (i+1) a h3 hg'
   refine⟨j+1,v,?_,q2,e',by simpa using q3,q4,?_⟩
   ·simp only[Instr.findNow,Instr.sameNow,h1,if_pos]
    have:(n==m)=false:=by simpa using λe=>hm e.symm
    rw[this]
    simp only
    rw[q1]
    simp[Nat.add_assoc,Nat.add_comm 1 j]
   ·intro c u kk hu hk
    simp only[bt,if_neg hm,bB,List.map_cons,cC,List.modify_succ_cons]
    exact⟨e,_,rfl,by simp only[ak];exact h1,h2,q5 c u kk hu hk⟩
theorem kW{I:Imm}{α:Type}{k:IntKind}{enc:α→AV}(n:Int):∀(l:List (Int×α)) (es:List MapEntry) (i:Nat),cC I (bB k enc l) es→aO l n=none→
  Instr.findNow (.int k) (.int k n) es i=some none∧∀(b:α) (e:MapEntry),ak I (enc b) e.val→e.key=.int k n→cC I (bB k enc (bt l n b)) (es++[e])
 |[],es,i,h,hg=>by
  simp only[bB,List.map_nil,cC]at h
  subst h
  refine⟨rfl,λb e hb hk=>?_⟩
  simp only[bt,bB,List.map_cons,List.map_nil,cC,List.nil_append]
  exact⟨e,[],rfl,by simp only[ak];exact hk,hb,rfl⟩
 |(m,c)::r,es,i,h,hg=>by
  simp only[bB,List.map_cons,cC]at h
  obtain⟨e,us,rfl,h1,h2,h3⟩:=h
  simp only[ak]at h1
  have hm:m≠n:=λhm=>by subst hm;simp[aO,List.find?]at hg
  have hg':aO r n=none:=by simpa [aO,List.find?,hm]using hg
  obtain⟨q1,q2⟩:=kW n r us (i+1) h3 hg'
  refine⟨?_,λb e' hb hk=>?_⟩
  ·simp only[Instr.findNow,Instr.sameNow,h1,if_pos]
   have:(n==m)=false:=by simpa using λe=>hm e.symm
   rw[this]
   exact q1
  ·simp only[bt,if_neg hm,bB,List.map_cons,cC,List.cons_append]
   exact⟨e,_,rfl,by simp only[ak];exact h1,h2,q2 b e' hb hk⟩
theorem vf{I:Imm}:∀(l:List (AV×AV)) (es:List MapEntry),cC I l es→es.length=l.length
 |[],es,h=>by simp only[cC]at h;subst h;rfl
 |(k,v)::r,es,h=>by
  simp only[cC]at h
  obtain⟨e,us,rfl,_,_,h3⟩:=h
  simp[vf r us h3]
structure iF(P:Program)(T K E:TypeId)(k:IntKind):Prop where
 und:P.underlying T=some (.map K E)
 key:P.underlying K=some (.int k)
section
variable {G:Gl}{σ:Sto}{o:Oper}{ev:Operand→AV}
theorem Y.makeMap{T d:Nat}{K E:TypeId}(h:o.op=.makeMap T none)(hi:G.ids.contains d=false):Yields G o ev ((d,.map K E [])::σ) [d] [d] (.bG d):=by
 intro σ' cx I β w ρ hR hw hm hop
 have hrun:(execOp ρ o).run G.P w=.ok (.value (.map (some w.heap.size))) (w.alloc (.map #[] 0)):=by
  simp[execOp,h,Instr.makeMap]
 rw[hrun]
 have hβ:=hm d (by simp)
 refine⟨I,dN β d (.map (some w.heap.size)),by simp only[Rep];exact⟨by rw[bu],rfl⟩,?_,aK.refl I,λx hx=>bJ β _ (λe=>hx (by simp[e]))⟩
 refine hw.real (by simpa using hi) hβ rfl λob hob=>?_
 rw[hR d (by simp),Sto.aD,if_pos rfl]at hob
 injection hob with hob
 subst hob
 simp only[aa,bu]
 exact .inr ⟨w.heap.size,#[],0,rfl,heap_alloc_new w _,rfl,λo=>hw.bV (Nat.le_refl _) o,.inl hw.size,by simp[fF]⟩
theorem oL{G:Gl}{cx:Cx}{I:Imm}{β:Nat→Value}{σ:Sto}{w:World}(hw:aN G cx I β σ w){d:Nat}{K E:TypeId}{aC:List (AV×AV)}(hd:σ.get d=some (.map K E aC)){v:Value}(hv:Rep I β (.bG d) v):
  ∃r es clock,v=.map (some r)∧β d=.map (some r)∧w.heap[r]?=some (.map es clock)∧cC I aC es.toList∧(∀o,I r o=none)∧Place cx r∧fF es clock:=by
 simp only[Rep]at hv
 obtain⟨rfl,hv⟩:=hv
 have:=hw.aZ d _ hd
 simp only[aa]at this
 rcases this with q|⟨r,es,clock,q1,q2,q3,q4,q5⟩
 ·rw[q]at hv;simp[iO]at hv
 ·exact⟨r,es,clock,q1,q1,q2,q3,q4,q5⟩
theorem eP{P:Program}{w:World}{r:Nat}{es:Array MapEntry}{c:Nat}(h:w.heap[r]?=some (.map es c)):(getObj r).run P w=.ok (.map es c) w:=by simp[getObj,Sem.run,h]
theorem ki{P:Program}{K:TypeId}{k:IntKind}(hK:P.underlying K=some (.int k))(e:Bool)(n:Int)(w:World):(Instr.checkKey e 10000 K (.int k n)).run P w=.ok () w:=by
 have e1:∀w,(underlying K).run P w=.ok (.int k) w:=λw=>by simp[underlying,program,Sem.run,hK]
 rw[Instr.checkKey];simp[e1]
def qJ(I:Imm)(w:World)(v:Value)(aC:List (AV×AV)):Prop:=∃r es clock,v=.map (some r)∧w.heap[r]?=some (.map es clock)∧cC I aC es.toList
theorem rQ{G:Gl}{cx:Cx}{I:Imm}{β:Nat→Value}{σ:Sto}{w:World}(hw:aN G cx I β σ w){d:Nat}{K E:TypeId}{aC:List (AV×AV)}(hd:σ.get d=some (.map K E aC)){v:Value}(hv:Rep I β (.bG d) v):qJ I w v aC:=by
 obtain⟨r,es,clock,q0,_,q2,q3,_⟩:=oL hw hd hv
 exact⟨r,es,clock,q0,q2,q3⟩
theorem zj{G:Gl}{cx:Cx}{I:Imm}{β:Nat→Value}{σ:Sto}{w:World}(hw:aN G cx I β σ w){d:Nat}{es:Array MapEntry}{clock:Nat}{K E:TypeId}{aC:List (AV×AV)}(hd:σ.get d=some (.cU es clock K E aC)){v:Value}(hv:Rep I β (.bG d) v):qJ I w v aC:=by
 simp only[Rep]at hv
 obtain⟨rfl,hv⟩:=hv
 have:=hw.aZ d _ hd
 simp only[aa]at this
 rcases this with q|⟨r,q1,q2,q3,_⟩
 ·rw[q]at hv;simp[iO]at hv
 ·exact⟨r,es,clock,q1,q2,q3⟩
theorem zk{G:Gl}{cx:Cx}{I:Imm}{β:Nat→Value}{σ:Sto}{w:World}(hw:aN G cx I β σ w){aC:List (AV×AV)}{v:Value}(hv:Rep I β (.mpf aC) v):qJ I w v aC:=by
 simp only[Rep,ak]at hv
 obtain⟨r,es,clock,rfl,h2,h3,_⟩:=hv
 obtain⟨es',clock',h4,h5⟩:=hw.dn r _ h2
 obtain⟨rfl,rfl⟩:=qa h5
 exact⟨r,es,clock,rfl,h4,h3⟩
theorem rR{α:Type}{I:Imm}{β:Nat→Value}{w:World}{ρ:Operand→Value}{T K E:Nat}{k:IntKind}{x y:Operand}{ok:Bool}{n:Int}(l:List (Int×α))(enc:α→AV)(z:α)(h:o.op=.lookup T x y ok)(h1:qJ I w (ρ x) (bB k enc l))(h2:ρ y=.int k n)
  (hT:iF G.P T K E k) (hz:∀w,∃v,(zeroValue E).run G.P w=.ok v w∧∀I,ak I (enc z) v) :
  ∃v,(execOp ρ o).run G.P w=.ok (.value v) w∧Rep I β (bif ok then .tup [enc ((aO l n).getD z),.bool (aO l n).isSome]else enc ((aO l n).getD z)) v:=by
 obtain⟨r,es,clock,q0,q2,q3⟩:=h1
 have e1:∀w,(underlying T).run G.P w=.ok (.map K E) w:=λw=>by simp[underlying,program,Sem.run,hT.und]
 have e2:∀w,(underlying K).run G.P w=.ok (.int k) w:=λw=>by simp[underlying,program,Sem.run,hT.key]
 have e3:=eP (P:=G.P) q2
 have e4:=ki (P:=G.P) hT.key (es.isEmpty) n w
 cases hg:aO l n with
 |none=>
  obtain⟨p1,_⟩:=kW n l es.toList 0 q3 hg
  obtain⟨v,z1,z2⟩:=hz w
  have e5:(Instr.findKey K (.int k n) es.toList).run G.P w=.ok none w:=by simp[Instr.findKey,e2,p1]
  cases ok with
  |true=>
   refine⟨.tuple #[v,.bool false],by simp[execOp,h,Instr.lookup,q0,h2,e1,e3,e4,e5,z1],?_⟩
   simp only[cond_true,Rep,aM]
   exact⟨_,rfl,v,[.bool false],rfl,ak.rep β _ _ (z2 I),.bool false,[],rfl,by simp[ak],rfl⟩
  |false=>
   refine⟨v,by simp[execOp,h,Instr.lookup,q0,h2,e1,e3,e4,e5,z1],?_⟩
   simp only[cond_false]
   exact ak.rep β _ _ (z2 I)
 |some a=>
  obtain⟨j,v,p1,p2,_⟩:=kV n l es.toList 0 a q3 hg
  have e5:(Instr.findKey K (.int k n) es.toList).run G.P w=.ok (some (0+j,v)) w:=by simp[Instr.findKey,e2,p1]
  cases ok with
  |true=>
   refine⟨.tuple #[v,.bool true],by simp[execOp,h,Instr.lookup,q0,h2,e1,e3,e4,e5],?_⟩
   simp only[cond_true,Rep,aM]
   exact⟨_,rfl,v,[.bool true],rfl,ak.rep β _ _ p2,.bool true,[],rfl,by simp[ak],rfl⟩
  |false=>
   refine⟨v,by simp[execOp,h,Instr.lookup,q0,h2,e1,e3,e4,e5],?_⟩
   simp only[cond_false]
   exact ak.rep β _ _ p2
theorem Y.lookup{α:Type}{T K E d:Nat}{k:IntKind}{x y:Operand}{ok:Bool}{n:Int}(l:List (Int×α))(enc:α→AV)(z:α)(h:o.op=.lookup T x y ok)(hx:ev x=.bG d)(hy:ev y=.int k n)(hd:σ.get d=some (.map K E (bB k enc l)))
  (hT:iF G.P T K E k) (hz:∀w,∃v,(zeroValue E).run G.P w=.ok v w∧∀I,ak I (enc z) v) :
  Yields G o ev σ [] [d] (bif ok then .tup [enc ((aO l n).getD z),.bool (aO l n).isSome]else enc ((aO l n).getD z)):=
 .pure λσ' cx I β w ρ hR hw hop=>by
  have h1:=hop x (by simp[h,Op.operands]);rw[hx]at h1
  have h2:=hop y (by simp[h,Op.operands]);rw[hy]at h2;have h2:=cE h2
  exact rR l enc z h (rQ hw (by rw[hR d (by simp)];exact hd) h1) h2 hT hz
theorem Y.agL{α:Type}{T K E:Nat}{k:IntKind}{x y:Operand}{ok:Bool}{n:Int}(l:List (Int×α))(enc:α→AV)(z:α)(h:o.op=.lookup T x y ok)(hx:ev x=.mpf (bB k enc l))(hy:ev y=.int k n)
  (hT:iF G.P T K E k) (hz:∀w,∃v,(zeroValue E).run G.P w=.ok v w∧∀I,ak I (enc z) v) :
  Yields G o ev σ [] [] (bif ok then .tup [enc ((aO l n).getD z),.bool (aO l n).isSome]else enc ((aO l n).getD z)):=
 .pure λσ' cx I β w ρ hR hw hop=>by
  have h1:=hop x (by simp[h,Op.operands]);rw[hx]at h1
  have h2:=hop y (by simp[h,Op.operands]);rw[hy]at h2;have h2:=cE h2
  exact rR l enc z h (zk hw h1) h2 hT hz
theorem ad2{α:Type}{I:Imm}{β:Nat→Value}{w:World}{ρ:Operand→Value}{T K E:Nat}{k:IntKind}{x:Operand}{kk}(l:List (Int×α))(enc:α→AV)(h:o.op=.call ⟨.builtin .len,#[x],kk⟩)(hk:kk=#[T])(h1:qJ I w (ρ x) (bB k enc l))(hT:G.P.underlying T=some (.map K E)):
  ∃v,(execOp ρ o).run G.P w=.ok (.value v) w∧Rep I β (.int .i64 (l.length:Int)) v:=by
 subst hk
 obtain⟨r,es,clock,q0,q2,q3⟩:=h1
 have e1:∀w,(underlying T).run G.P w=.ok (.map K E) w:=λw=>by simp[underlying,program,Sem.run,hT]
 have e3:=eP (P:=G.P) q2
 have hl:=vf _ _ q3
 simp only[Array.length_toList,bB,List.length_map]at hl
 exact⟨.int .i64 l.length,by simp[execOp,h,resolve,invoke,builtin,Builtin.len_,q0,e1,e3,goInt,hl],by simp[Rep,ak]⟩
theorem Y.lenM{α:Type}{T K E d:Nat}{k:IntKind}{x:Operand}{kk}(l:List (Int×α))(enc:α→AV)(h:o.op=.call ⟨.builtin .len,#[x],kk⟩)(hk:kk=#[T])(hx:ev x=.bG d)(hd:σ.get d=some (.map K E (bB k enc l)))(hT:G.P.underlying T=some (.map K E)):
  Yields G o ev σ [] [d] (.int .i64 (l.length:Int)):=
 .pure λσ' cx I β w ρ hR hw hop=>by
  have h1:=hop x (by simp[h,Op.operands,Call.operands]);rw[hx]at h1
  exact ad2 l enc h hk (rQ hw (by rw[hR d (by simp)];exact hd) h1) hT
theorem fF.push{es:Array MapEntry}{clock:Nat}(h:fF es clock)(k v:Value):fF (es.push ⟨k,v,clock⟩) (clock+1):=by
 obtain⟨h1,h2⟩:=h
 refine⟨?_,λx hx=>?_⟩
 ·simp only[Array.toList_push,List.map_append,List.map_cons,List.map_nil]
  rw[List.nodup_append]
  refine⟨h1,by simp,λa ha b hb=>?_⟩
  simp only[List.mem_singleton]at hb
  obtain⟨x,hx,rfl⟩:=List.mem_map.1 ha
  have:=h2 x hx
  omega
 ·simp only[Array.toList_push,List.mem_append,List.mem_singleton]at hx
  rcases hx with hx|rfl
  ·have:=h2 x hx;omega
  ·simp
theorem fF.modify{es:Array MapEntry}{clock:Nat}(h:fF es clock)(j:Nat)(f:MapEntry→MapEntry)(hf:∀e,(f e).born=e.born):fF (es.modify j f) clock:=by
 obtain⟨h1,h2⟩:=h
 have e:(es.modify j f).toList.map (·.born)=es.toList.map (·.born):=by
  apply List.ext_getElem?
  intro i
  simp only[Array.toList_modify,List.getElem?_map,List.getElem?_modify]
  cases es.toList[i]? with
  |none=>simp
  |some x=>by_cases hi:j=i<;>simp[hi,hf]
 refine⟨by rw[e];exact h1,λx hx=>?_⟩
 have:x.born∈(es.modify j f).toList.map (·.born):=List.mem_map.2 ⟨x,hx,rfl⟩
 rw[e]at this
 obtain⟨y,hy,hxy⟩:=List.mem_map.1 this
 rw[←hxy];exact h2 y hy
theorem Kept.setObj(w:World)(r:Nat)(o:Obj):Kept w {w with heap:=w.heap.setIfInBounds r o} r:=
 ⟨λk hk _=>by simp[Array.getElem?_setIfInBounds_ne (Ne.symm hk)],by simp,rfl,rfl,rfl,Nat.le_refl _⟩
theorem D.mapUpdate{α:Type}{T K E d:Nat}{k:IntKind}{x y z:Operand}{n:Int}(l:List (Int×α))(enc:α→AV)(v:α)(h:o.op=.mapUpdate T x y z∨o.op=.insert T x y z)(hx:ev x=.bG d)(hy:ev y=.int k n)(hz:ev z=enc v)(hc:(enc v).closed=true)
  (hd:σ.get d=some (.map K E (bB k enc l))) (hT:iF G.P T K E k) :
  dM G o ev σ [d] [] (λr σ'=>r=.undef∧σ'=σ.set d (.map K E (bB k enc (bt l n v)))):=by
 intro cx I β w ρ hw hop
 have ff:x∈o.op.operands∧y∈o.op.operands∧z∈o.op.operands:=by rcases h with h|h<;>simp[h,Op.operands]
 have h1:=hop x ff.1;rw[hx]at h1
 have h2:=hop y ff.2.1;rw[hy]at h2;have h2:=cE h2
 have h3:=hop z ff.2.2;rw[hz]at h3
 have h3:=Rep.closed _ _ hc h3
 obtain⟨r,es,clock,q0,q1,q2,q3,q4,q5,q6⟩:=oL hw hd h1
 have e1:∀w,(underlying T).run G.P w=.ok (.map K E) w:=λw=>by simp[underlying,program,Sem.run,hT.und]
 have e2:∀w,(underlying K).run G.P w=.ok (.int k) w:=λw=>by simp[underlying,program,Sem.run,hT.key]
 have e3:=eP (P:=G.P) q2
 have e4:=ki (P:=G.P) hT.key false n w
 have dB:∀ob:Obj,(setObj r ob).run G.P w=.ok () {w with heap:=w.heap.setIfInBounds r ob}:=λob=>by
  have:=bf q2
  simp[setObj,Sem.run,q2]
 have main:∃es' clock',(execOp ρ o).run G.P w=.ok .skip {w with heap:=w.heap.setIfInBounds r (.map es' clock')}∧cC I (bB k enc (bt l n v)) es'.toList∧fF es' clock':=by
  cases hg:aO l n with
  |none=>
   obtain⟨p1,p2⟩:=kW n l es.toList 0 q3 hg
   have e5:(Instr.findKey K (.int k n) es.toList).run G.P w=.ok none w:=by simp[Instr.findKey,e2,p1]
   refine⟨_,_,by rcases h with h|h<;>simp[execOp,h,Instr.mapUpdate,q0,h2,e1,e3,e4,e5,dB]<;>rfl,?_,?_⟩
   rotate_left
   ·exact q6.push _ _
   simpa using p2 v ⟨.int k n,ρ z,clock⟩ h3 rfl
  |some a=>
   obtain⟨j,u,p1,p2,e',p3,p4,p5⟩:=kV n l es.toList 0 a q3 hg
   have e5:(Instr.findKey K (.int k n) es.toList).run G.P w=.ok (some (0+j,u)) w:=by simp[Instr.findKey,e2,p1]
   have e6:es[j]?=some e':=by simpa using p3
   have e7:(Instr.keyThatStays (.int k n) (.int k n)).run G.P w=.ok (.int k n) w:=by simp[Instr.keyThatStays,Instr.sameBits]
   refine⟨_,_,by rcases h with h|h<;>simp[execOp,h,Instr.mapUpdate,q0,h2,e1,e3,e4,e5,dB,e6,p4,e7]<;>rfl,?_,?_⟩
   ·simpa using p5 v (ρ z) (λe=>{e with key:=.int k n,val:=ρ z}) h3 (λe=>⟨rfl,rfl⟩)
   ·exact q6.modify _ _ λ_=>rfl
 obtain⟨es',clock',hrun,hE,hB⟩:=main
 rw[hrun]
 refine⟨.undef,_,I,β,⟨rfl,rfl⟩,by simp[Rep,ak],?_,aK.refl I,λ_ _=>rfl,λx hx=>by rw[Sto.b9,if_neg (by simpa using hx)]⟩
 have hbd:blk (β d)=some r:=by rw[q1];rfl
 refine hw.turn (d:=d) (Kept.setObj w r _) q5 (λx hx=>by rw[Sto.b9,if_neg hx]) (λx hx hs e=>hw.bz x d hs (by rw[hd];rfl) hx r e (cz hbd)) (aK.refl I) (λ_ _ _=>rfl)
  (λo v hv=>by rw[q4 o]at hv;cases hv) (q4 none) (λ_ _=>rfl) (.inr rfl) (HLe.refl β) (.inl hbd) λob hob=>?_
 rw[Sto.b9,if_pos rfl,hd]at hob
 injection hob with hob
 subst hob
 simp only[aa]
 exact .inr ⟨r,es',clock',q1,by have:=bf q2;simp[Array.getElem?_setIfInBounds,this],hE,q4,q5,hB⟩
theorem Y.aiS{T:TypeId}{x y:Operand}{k:IntKind}{n:Int}{s:ByteArray}{b:UInt8}(h:o.op=.index T x y)(hx:ev x=.str s)(hy:ev y=.int k n)(hT:G.P.underlying T=some .string)(hn:0≤n)(hb:s[n.toNat]?=some b):
  Yields G o ev σ [] [] (.int .u8 (b.toNat:Int)):=
 .pure λσ' cx I β w ρ hR hw hop=>by
  have h1:=hop x (by simp[h,Op.operands]);rw[hx]at h1;simp only[Rep,ak]at h1
  have h2:=hop y (by simp[h,Op.operands]);rw[hy]at h2;have h2:=cE h2
  have e1:∀w,(underlying T).run G.P w=.ok .string w:=λw=>by simp[underlying,program,Sem.run,hT]
  exact⟨.int .u8 b.toNat,by simp[execOp,h,Instr.index,h1,h2,asIntOf,e1,hn,hb],by simp[Rep,ak]⟩
end
end Go.Proofs.YtmnbolcmepihlaaGreat
namespace Go.Proofs.YtmnbolcmepihlaaGreat
set_option linter.all false
open Go Go.Sort
abbrev zl(P:Program)(f:FuncId):Prop:=∀(blk off cap:Nat) (zs:List Int) (w:World),Holds (Value.int .i64) w blk off zs.toArray→blk<w.heap.size→zs.length<4611686018427387904→
  Calls P f #[.slice (some ⟨blk,off,none⟩) zs.length cap] w λe w'=>
   e=.returned (.tuple #[])∧∃n os,w'=grow (putRow (Value.int .i64) (Go.Sort.ahead w n) blk off (zs.mergeSort λx y=>decide (x≤y)).toArray) os
def encI(n:Int):List AV:=[.int .i64 n]
def vP(x:Int):List Int→List Int
 |[]=>[x]
 |y::r=>if x≤y then x::y::r else y::vP x r
def fW:List Int→List Int
 |[]=>[]
 |x::r=>vP x (fW r)
theorem tG(x:Int):∀l:List Int,(vP x l).Perm (x::l)
 |[]=>List.Perm.refl _
 |y::r=>by
  simp only[vP]
  split
  ·exact List.Perm.refl _
  ·exact((tG x r).cons y).trans (List.Perm.swap x y r)
theorem mR:∀l:List Int,(fW l).Perm l
 |[]=>List.Perm.refl _
 |x::r=>(tG x (fW r)).trans ((mR r).cons x)
theorem vg(x:Int):∀l:List Int,l.Pairwise (·≤·)→(vP x l).Pairwise (·≤·)
 |[],_=>by simp[vP]
 |y::r,h=>by
  simp only[vP]
  rw[List.pairwise_cons]at h
  split
  ·rename_i hx
   rw[List.pairwise_cons]
   refine⟨λz hz=>?_,List.pairwise_cons.2 h⟩
   rcases List.mem_cons.1 hz with rfl|hz
   ·exact hx
   ·exact Int.le_trans hx (h.1 z hz)
  ·rename_i hx
   rw[List.pairwise_cons]
   refine⟨λz hz=>?_,vg x r h.2⟩
   rcases List.mem_cons.1 ((tG x r).mem_iff.1 hz)with rfl|hz
   ·omega
   ·exact h.1 z hz
theorem pK:∀l:List Int,(fW l).Pairwise (·≤·)
 |[]=>List.Pairwise.nil
 |x::r=>vg x _ (pK r)
theorem sZ:∀{l l':List Int},l.Perm l'→l.Pairwise (·≤·)→l'.Pairwise (·≤·)→l=l'
 |[],l',h,_,_=>by simpa using h.symm
 |x::r,[],h,_,_=>by simpa using h
 |x::r,y::s,h,h1,h2=>by
  rw[List.pairwise_cons]at h1 h2
  have hxy:x=y:=by
   have a1:x∈y::s:=h.mem_iff.1 (by simp)
   have a2:y∈x::r:=h.mem_iff.2 (by simp)
   have b1:y≤x:=by
    rcases List.mem_cons.1 a1 with rfl|a1
    ·exact Int.le_refl _
    ·exact h2.1 x a1
   have b2:x≤y:=by
    rcases List.mem_cons.1 a2 with rfl|a2
    ·exact Int.le_refl _
    ·exact h1.1 y a2
   omega
  subst hxy
  rw[sZ (List.Perm.cons_inv h) h1.2 h2.2]
theorem zm(zs:List Int):(zs.mergeSort λx y=>decide (x≤y))=fW zs:=by
 refine sZ ((List.mergeSort_perm zs _).trans (mR zs).symm) ?_ (pK zs)
 have:=List.pairwise_mergeSort (le:=λx y:Int=>decide (x≤y)) (λa b c h1 h2=>by simp at h1 h2 ⊢;omega) (λa b=>by simp;omega) zs
 exact this.imp (λh=>by simpa using h)
theorem zn(zs:List Int):(fW zs).length=zs.length:=(mR zs).length_eq
theorem oM{I:Imm}:∀(zs:List Int) (vs:List Value),aL I (zs.map encI).flatten vs↔vs=zs.map (Value.int .i64)
 |[],vs=>by simp[aL]
 |z::r,vs=>by
  simp only[List.map_cons,List.flatten_cons,encI,List.singleton_append,aL,ak]
  constructor
  ·rintro⟨u,us,rfl,rfl,h⟩
   rw[(oM r us).1 h]
  ·rintro rfl
   exact⟨_,_,rfl,rfl,(oM r _).2 rfl⟩
theorem aaC{P:Program}{f:FuncId}(hs:zl P f)(hn:bM P f [] [.bw] (λr σ'=>r=.tup []∧σ'=[])){d T:Nat}(zs:List Int)(hz:zs.length<4611686018427387904):
    bM P f [(d,.slice T 1 (zs.map encI) 0 false)] [.own d] (λr σ'=>r=.tup []∧σ'=[(d,.slice T 1 ((fW zs).map encI) 0 false)]):=by
  intro cx w I β vs hw hr
  simp only[aM]at hr
  obtain⟨u,us,rfl,hr,rfl⟩:=hr
  have hd:Sto.get [(d,aV.slice T 1 (zs.map encI) 0 false)] d=some (.slice T 1 (zs.map encI) 0 false):=by rw[Sto.aD,if_pos rfl]
  have ho:=hw.aZ d _ hd
  simp only[Rep]at hr
  obtain⟨rfl,hr⟩:=hr
  simp only[aa,List.length_map]at ho
  rcases ho with q|⟨q,q2,_⟩|⟨b,cap,arr,q1,q2,q3,q4,q5,q6,q7,q8,q9,q10,q11⟩
  · rw[q]at hr;simp[eV]at hr
  · have hz0:zs=[]:=by simpa using q2
    subst hz0
    have hw0:aN ⟨P,0,Sto.ids []⟩ cx I β [] w:={hw with aZ:=λx o h=>by simp[Sto.get]at h,bz:=λx y h=>by simp[Sto.get]at h,keep:=λx h=>by simp[Sto.ids]at h}
    refine Calls.mono (hn cx w I β [β d] hw0 (by simp only[aM,Rep,ak];exact⟨_,_,rfl,q,rfl⟩)) ?_
    rintro e w' ⟨v,rfl,r,σ',I',β',⟨rfl,rfl⟩,h1,h2⟩
    refine⟨v,rfl,.tup [],[(d,.slice T 1 [] 0 false)],I',β,⟨rfl,by simp[fW]⟩,?_,?_⟩
    · simp only[Rep,aM]at h1 ⊢;exact h1
    · exact{h2 with
        aZ:=λx o h=>by
          rw[Sto.aD]at h
          split at h
          · rename_i e;subst e;injection h with h;subst h
            simp only[aa]
            exact .inr (.inl ⟨q,trivial,trivial⟩)
          · simp[Sto.get]at h
        bz:=λx y hx hy hne b hb hb'=>by
          rw[Sto.aD]at hx hy
          split at hx
          · rename_i e;subst e
            split at hy
            · rename_i e';exact hne e'
            · simp[Sto.get]at hy
          · simp[Sto.get]at hx
        keep:=hw.keep}
  · simp only[Nat.mul_one]at q5 q6
    have jC:arr.toList.take zs.length=zs.map (Value.int .i64):=(oM zs _).1 q6
    have jU:∀j,j<zs.length→arr[j]?=some (Value.int .i64 (zs[j]?.getD default)):=λj hj=>by
      have:=congrArg (·[j]?) jC
      simp only[List.getElem?_take,if_pos hj,Array.getElem?_toList,List.getElem?_map]at this
      rw[this,List.getElem?_eq_getElem hj];rfl
    have hH:Holds (Value.int .i64) w b 0 zs.toArray:=λj hj=>by
      have hj:j<zs.length:=by simpa using hj
      constructor
      · simp only[World.cell?,q4,Nat.zero_add]
        rw[jU j hj]
        simp[hj]
      · simp[World.frozen?,q4]
    have hlt:=bf q4
    have hc:=hs b 0 cap zs w hH hlt hz
    rw[q1]
    refine Calls.mono hc ?_
    rintro e w' ⟨rfl,n,os,rfl⟩
    rw[zm]
    have hsl:(fW zs).length=zs.length:=zn zs
    have hheap:(grow (putRow (Value.int .i64) (Go.Sort.ahead w n) b 0 (fW zs).toArray) os).heap[b]?=some (.cells (putCells (Value.int .i64) 0 (fW zs).toArray arr) T (0,0)):=by
      simp only[grow,putRow,mapBlock,Go.Sort.ahead]
      rw[Array.getElem?_append_left (by simpa using hlt),Array.getElem?_modify,if_pos rfl,q4]
      rfl
    have abv:(putCells (Value.int .i64) 0 (fW zs).toArray arr).toList.take (fW zs).length=(fW zs).map (Value.int .i64):=by
      apply List.ext_getElem?
      intro j
      rw[List.getElem?_take,List.getElem?_map]
      split
      · rename_i hj
        have hj2:j<arr.size:=by omega
        rw[Array.getElem?_toList]
        simp only[putCells,Array.getElem?_mapIdx]
        rw[Array.getElem?_eq_getElem hj2]
        simp[hj]
      · rename_i hj
        rw[List.getElem?_eq_none (by omega)];rfl
    refine⟨.tuple #[],rfl,.tup [],_,I,β,⟨rfl,rfl⟩,by simp only[Rep,aM];exact⟨_,rfl,rfl⟩,?_⟩
    refine aN.turn (b:=b) (d:=d) hw ⟨λk hk hlt=>?_,by simp[grow,putRow,mapBlock,Go.Sort.ahead],rfl,rfl,rfl,by simp[grow,putRow,mapBlock,Go.Sort.ahead]⟩ q11 (λx hx=>?_) (λx hx h _=>?_) (aK.refl I) (λ_ _ _=>rfl) (λo v hv=>?_) (hw.fT q4) (λ_ _=>rfl) (.inr rfl) (HLe.refl β) (.inl (by rw[q1];rfl)) (λob hob=>?_)
    · simp only[grow,putRow,mapBlock,Go.Sort.ahead]
      rw[Array.getElem?_append_left (by simpa using hlt),Array.getElem?_modify,if_neg (λe=>hk e.symm)]
    · rw[Sto.aD,Sto.aD,if_neg (Ne.symm hx),if_neg (Ne.symm hx)]
    · rw[Sto.aD,if_neg (Ne.symm hx)]at h;simp[Sto.get]at h
    · rw[q10 o (by omega)]at hv;cases hv
    · rw[Sto.aD,if_pos rfl]at hob
      injection hob with hob
      subst hob
      simp only[aa,List.length_map]
      refine .inr (.inr ⟨b,cap,_,by rw[q1,hsl],by omega,q3,hheap,by simpa [putCells]using q5,?_,?_,by omega,?_,?_,q11⟩)
      · rw[Nat.mul_one];exact(oM _ _).2 abv
      · intro e he;obtain⟨x,_,rfl⟩:=List.mem_map.1 he;rfl
      · intro h;cases h
      · intro o _;exact q10 o (by omega)
end Go.Proofs.YtmnbolcmepihlaaGreat
namespace Go.Proofs.YtmnbolcmepihlaaGreat
set_option linter.all false
open Go
mutual
theorem AV.xx{r s:Nat→Nat}(h:∀x,s (r x)=x):∀a:AV,(a.ren r).ren s=a
 |.de|.undef|.int _ _|.bool _|.str _|.lst _ _|.cH _|.bw|.jB|.cfn _ _|.sl0|.mpf _|.arr _=>rfl
 |.agg cs=>by simp only[AV.ren,nC h cs]
 |.tup cs=>by simp only[AV.ren,nC h cs]
 |.fn _ cs=>by simp only[AV.ren,nC h cs]
 |.own d=>by simp only[AV.ren,h d]
 |.ptr d _=>by simp only[AV.ren,h d]
 |.hnd _ d=>by simp only[AV.ren,h d]
 |.bG d=>by simp only[AV.ren,h d]
theorem nC{r s:Nat→Nat}(h:∀x,s (r x)=x):∀l:List AV,mM s (mM r l)=l
 |[]=>rfl
 |x::t=>by simp only[mM,AV.xx h x,nC h t]
end
theorem Sto.lQ{r s:Nat→Nat}(h:∀x,s (r x)=x):∀(σ:Sto) (d:Nat),(σ.ren r).get (r d)=(σ.get d).map (·.ren r)
 |[],d=>rfl
 |(k,v)::t,d=>by
  have:=Sto.lQ h t d
  simp only[Sto.ren]at this ⊢
  simp only[List.map_cons,Sto.aD]
  by_cases hk:k=d
  ·subst hk;simp
  ·have:r k≠r d:=λe=>hk (by rw[←h k,←h d,e])
   simp only[hk,this,if_false];assumption
theorem Sto.aaX(r:Nat→Nat)(σ:Sto):(σ.ren r).ids=σ.ids.map r:=by simp[Sto.ids,Sto.ren]
theorem aa.ren{cx:Cx}{I:Imm}{β β':Nat→Value}{w:World}{r:Nat→Nat}(hb:∀d,β' (r d)=β d){d:Nat}{o:aV}{cx':Cx}(hc:∀b,Place cx b→Place cx' b)(h:aa cx I β w d o):aa cx' I β' w (r d) (o.ren r):=by
 cases o with
 |cells T cs=>
  simp only[aa,aV.ren,hb]at h ⊢
  rcases h with q|⟨b,arr,e1,e2,e3,e4,e5⟩
  ·exact .inl q
  ·exact .inr ⟨b,arr,e1,e2,l9 (p:=λ_=>false) (λd _=>hb d) cs _ (iU (λ_=>rfl) cs) e3,e4,hc _ e5⟩
 |slice T sz xs k fz=>
  simp only[aa,aV.ren,hb]at h ⊢
  rcases h with q|q|⟨b,cap,arr,q1,q2,q3,q4,q5,q6,q7,q8,q9,q10,q11⟩
  ·exact .inl q
  ·exact .inr (.inl q)
  ·exact .inr (.inr ⟨b,cap,arr,q1,q2,q3,q4,q5,q6,q7,q8,q9,q10,hc _ q11⟩)
 |win T sz xs=>
  simp only[aa,aV.ren,hb]at h ⊢
  rcases h with q|q|⟨b,o',cap,arr,q1,q2,q3,q4,q5,q6,q7,q8,q9⟩
  ·exact .inl q
  ·exact .inr (.inl q)
  ·exact .inr (.inr ⟨b,o',cap,arr,q1,q2,q3,q4,q5,q6,q7,q8,hc _ q9⟩)
 |map K E aC=>
  simp only[aa,aV.ren,hb]at h ⊢
  rcases h with q|⟨b,es,c,q1,q2,q3,q4,q5,q6⟩
  ·exact .inl q
  ·exact .inr ⟨b,es,c,q1,q2,q3,q4,hc _ q5,q6⟩
 |iC K E aC=>
  simp only[aa,aV.ren,hb]at h ⊢
  rcases h with q|⟨b,es,c,q1,q2,q3,q5,q6⟩
  ·exact .inl q
  ·exact .inr ⟨b,es,c,q1,q2,q3,hc _ q5,q6⟩
 |cU es clock K E aC=>
  simp only[aa,aV.ren,hb]at h ⊢
  rcases h with q|⟨b,q1,q2,q3,q4,q5,q6⟩
  ·exact .inl q
  ·exact .inr ⟨b,q1,q2,q3,q4,hc _ q5,q6⟩
 |iter dm since c0 seen=>
  simp only[aa,aV.ren,hb]at h ⊢
  rcases h with q|⟨b,bm,q1,q2,q3,q4,q5⟩
  ·exact .inl q
  ·exact .inr ⟨b,bm,q1,q2,q3,q4,hc _ q5⟩
 |hdr dm n=>simpa only[aa,aV.ren,hb]using h
 |bun els=>
  simp only[aa,aV.ren,hb]at h ⊢
  rcases h with q|⟨hs,q1,q2⟩
  ·exact .inl q
  ·exact .inr ⟨hs,q1,q2.go (aK.refl I) λb _=>⟨λ_=>rfl,λ_=>rfl,hc b⟩⟩
 |slm T xs t=>
  simp only[aa,aV.ren,hb]at h ⊢
  rcases h with q|⟨b',cap,arr,q1,q2,q3,q4,q5,q6,q7,q8,q9,q10,q11⟩
  ·exact .inl q
  ·exact .inr ⟨b',cap,arr,q1,q2,q3,q4,q5,q6,q7,q8,q9,q10,hc _ q11⟩
 |vec T xs=>
  simp only[aa,aV.ren,hb]at h ⊢
  rcases h with q|⟨b',arr,q1,q2,q3,q4,q5⟩
  ·exact .inl q
  ·exact .inr ⟨b',arr,q1,q2,q3,q4,hc _ q5⟩
 |dL es clock aC seen=>
  simp only[aa,aV.ren,hb]at h ⊢
  rcases h with q|⟨r',bm,q1,q2,q3,q4,q5,q6,q7⟩
  ·exact .inl q
  ·exact .inr ⟨r',bm,q1,q2,q3,q4,q5,q6,hc _ q7⟩
 |cM T e n hole=>
  have hh:∀hs as,ei β' hs as (mN r hole)↔ei β hs as hole:=λhs as=>by
   cases hole with
   |none=>exact Iff.rfl
   |some q=>obtain⟨i,t⟩:=q;cases i<;>simp only[ei,mN,hb]
  simp only[aa,aV.ren,hb,hh]at h ⊢
  rcases h with q|⟨b',cap,arr,hs,q1,q2,q3,q4,q5,q6,q7,q8,q9,q10⟩
  ·exact .inl q
  ·exact .inr ⟨b',cap,arr,hs,q1,q2,q3,q4,q5,q6,q7,q8,q9,hc _ q10⟩
 |fA K E e keys hole fx=>
  have hh:∀hs as,ei β' hs as (mN r hole)↔ei β hs as hole:=λhs as=>by
   cases hole with
   |none=>exact Iff.rfl
   |some q=>obtain⟨i,t⟩:=q;cases i<;>simp only[ei,mN,hb]
  simp only[aa,aV.ren,hb,hh]at h ⊢
  rcases h with q|⟨r,es,clock,hs,as,q1,q2,q3,q4,q5,q6,q7,q8⟩
  ·exact .inl q
  ·exact .inr ⟨r,es,clock,hs,as,q1,q2,q3,q4,q5,q6,hc _ q7,q8⟩
theorem aV.xx{r s:Nat→Nat}(h:∀x,s (r x)=x):∀o:aV,(o.ren r).ren s=o
 |.cells T cs=>by simp only[aV.ren,nC h cs]
 |.slice ..=>rfl
 |.map ..=>rfl
 |.win ..=>rfl
 |.iC ..=>rfl
 |.cU ..=>rfl
 |.iter dm _ _ _=>by simp only[aV.ren,h dm]
 |.hdr dm _=>by simp only[aV.ren,h dm]
 |.bun ..=>rfl
 |.slm T xs t=>by simp only[aV.ren,h t]
 |.dL ..=>rfl
 |.vec ..=>rfl
 |.cM T e n none=>by simp only[aV.ren,mN,h e]
 |.cM T e n (some (i,t))=>by simp only[aV.ren,mN,h e,h t]
 |.fA K E e keys none fx=>by simp only[aV.ren,mN,h e]
 |.fA K E e keys (some (i,t)) fx=>by simp only[aV.ren,mN,h e,h t]
theorem bM.ren{P:Program}{f:FuncId}{σ0:Sto}{args:List AV}{Post:AV→Sto→Prop}(h:bM P f σ0 args Post)(r s:Nat→Nat)(hsr:∀x,s (r x)=x)(hrs:∀x,r (s x)=x):
    bM P f (σ0.ren r) (mM r args) (λa σ'=>∃a0 σ1,Post a0 σ1∧a=a0.ren r∧σ'=σ1.ren r):=by
  intro cx w I β vs hw hr
  have hin:∀x y,r x=r y→x=y:=λx y e=>by rw[←hsr x,←hsr y,e]
  have hw1:aN ⟨P,0,σ0.ids⟩ {cx with β0:=λx=>cx.β0 (r x)} I (λx=>β (r x)) σ0 w:=
    {good:=hw.good,dn:=hw.dn,en:=hw.en,fc:=hw.fc,frame:=hw.frame,size:=hw.size,tape:=hw.tape,os:=hw.os,output:=hw.output,drawn:=hw.drawn
     aZ:=λd o hd=>by
        have h1:=hw.aZ (r d) (o.ren r) (by rw[Sto.lQ hsr,hd];rfl)
        have h2:=aa.ren (cx:=cx) (r:=s) (β:=β) (β':=λx=>β (r x)) (λx=>by show β (r (s x))=β x;rw[hrs]) (cx':={cx with β0:=λx=>cx.β0 (r x)}) (λb hb=>hb) h1
        rwa [hsr,aV.xx hsr]at h2
     bz:=λd d' hd hd' hne b hb=>hw.bz (r d) (r d') (by rw[Sto.lQ hsr];simpa using hd) (by rw[Sto.lQ hsr];simpa using hd') (λe=>hne (hin _ _ e)) b hb
     keep:=λd hd=>hw.keep (r d) (by show r d∈(σ0.ren r).ids;rw[Sto.aaX];exact List.mem_map_of_mem hd)}
  have hr1:aM I (λx=>β (r x)) args vs:=by
    have:=l9 (r:=s) (β':=λx=>β (r x)) (p:=λ_=>false) (λx _=>by show β (r (s x))=β x;rw[hrs]) (mM r args) vs (iU (λ_=>rfl) _) hr
    rwa [nC hsr]at this
  refine Calls.mono (h _ w I _ vs hw1 hr1) ?_
  rintro e w' ⟨v,rfl,a,σ',I',β',hp,fG,hw'⟩
  refine⟨v,rfl,a.ren r,σ'.ren r,I',λx=>β' (s x),⟨a,σ',hp,rfl,rfl⟩,xh (r:=r) (p:=λ_=>false) (λx _=>by show β' (s (r x))=β' x;rw[hsr]) a v (tr (λ_=>rfl) a) fG,?_⟩
  have jU:∀d,(σ'.ren r).get d=(σ'.get (s d)).map (·.ren r):=λd=>by
    have:=Sto.lQ hsr σ' (s d)
    rwa [hrs]at this
  exact{good:=hw'.good,dn:=hw'.dn,en:=hw'.en,fc:=hw'.fc,frame:=hw'.frame,size:=hw'.size,tape:=hw'.tape,os:=hw'.os,output:=hw'.output,drawn:=hw'.drawn
        aZ:=λd o hd=>by
            rw[jU]at hd
            obtain⟨o0,h0,rfl⟩:=Option.map_eq_some_iff.1 hd
            have:=aa.ren (cx:={cx with β0:=λx=>cx.β0 (r x)}) (r:=r) (β:=β') (β':=λx=>β' (s x)) (λx=>by show β' (s (r x))=β' x;rw[hsr]) (cx':=cx) (λb hb=>hb) (hw'.aZ (s d) o0 h0)
            rwa [hrs]at this
        bz:=λd d' hd hd' hne b hb=>by
            rw[jU]at hd hd'
            exact hw'.bz (s d) (s d') (by simpa using hd) (by simpa using hd') (λe=>hne (by rw[←hrs d,←hrs d',e])) b hb
        keep:=λd hd=>by
            have:s d∈σ0.ids:=by
              have hd:d∈(σ0.ren r).ids:=hd
              rw[Sto.aaX]at hd
              obtain⟨x,hx,rfl⟩:=List.mem_map.1 hd
              rw[hsr];exact hx
            have:=hw'.keep (s d) this
            show β' (s d)=_
            rw[this]
            show cx.β0 (r (s d))=_
            rw[hrs]}
def swp(a b x:Nat):Nat:=bif Nat.beq x a then b else bif Nat.beq x b then a else x
theorem aaY(a b x:Nat):swp a b (swp a b x)=x:=by
 have e:∀u v:Nat,Nat.beq u v=decide (u=v):=λu v=>by rw[Bool.eq_iff_iff];simp
 simp only[swp,e]
 by_cases h1:x=a
 ·subst h1
  by_cases h2:b=x
  ·subst h2;simp
  ·simp[h2]
 ·by_cases h2:x=b
  ·subst h2;simp[h1]
  ·simp[h1,h2]
def mS:List (Nat×Nat)→Nat→Nat
 |[],x=>x
 |(a,b)::r,x=>swp a b (mS r x)
def uG:List (Nat×Nat)→Nat→Nat
 |[],x=>x
 |(a,b)::r,x=>uG r (swp a b x)
theorem zo:∀(l:List (Nat×Nat)) (x:Nat),uG l (mS l x)=x
 |[],x=>rfl
 |(a,b)::r,x=>by simp only[mS,uG,aaY,zo r]
theorem yd:∀(l:List (Nat×Nat)) (x:Nat),mS l (uG l x)=x
 |[],x=>rfl
 |(a,b)::r,x=>by simp only[mS,uG,yd r,aaY]
theorem bM.at{P:Program}{f:FuncId}{σ0:Sto}{args:List AV}{Post:AV→Sto→Prop}(h:bM P f σ0 args Post)(l:List (Nat×Nat)):
  bM P f (σ0.ren (mS l)) (mM (mS l) args) (λa σ'=>∃a0 σ1,Post a0 σ1∧a=a0.ren (mS l)∧σ'=σ1.ren (mS l)):=
 h.ren (mS l) (uG l) (zo l) (yd l)
theorem ye{I:Imm}{β β':Nat→Value}{b:AV}{post:List AV}:∀(pre:List AV) (vs:List Value) {a:AV},aM I β (pre++a::post) vs→(∀x v,x∈pre∨x∈post→Rep I β x v→Rep I β' x v)→(∀v,Rep I β a v→Rep I β' b v)→aM I β' (pre++b::post) vs
 |[],vs,a,h,h1,h2=>by
  simp only[List.nil_append,aM]at h ⊢
  obtain⟨u,us,rfl,q1,q2⟩:=h
  have key:∀(l:List AV) (vs:List Value),(∀x∈l,x∈post)→aM I β l vs→aM I β' l vs:=by
   intro l
   induction l with
   |nil=>intro _ _ h;exact h
   |cons x r ih=>
    intro vs hm h
    simp only[aM]at h ⊢
    obtain⟨u,us,rfl,p1,p2⟩:=h
    exact⟨u,us,rfl,h1 x u (.inr (hm x (by simp))) p1,ih us (λy hy=>hm y (by simp[hy])) p2⟩
  exact⟨u,us,rfl,h2 u q1,key post us (λx hx=>hx) q2⟩
 |x::r,vs,a,h,h1,h2=>by
  simp only[List.cons_append,aM]at h ⊢
  obtain⟨u,us,rfl,q1,q2⟩:=h
  exact⟨u,us,rfl,h1 x u (.inl (by simp)) q1,ye r us q2 (λy v hy=>h1 y v (hy.imp (λh=>by simp[h]) id)) h2⟩
theorem yf{p:Nat→Bool}:∀{l:List AV},iT p l=false→∀x∈l,x.refs p=false
 |[],_,x,h=>by simp at h
 |y::r,h,x,hx=>by
  simp only[iT,Bool.or_eq_false_iff]at h
  rcases List.mem_cons.1 hx with rfl|hx
  ·exact h.1
  ·exact yf h.2 x hx
theorem aU.aiT{G:Gl}{env:Env}{σ:Sto}(d0 d:Nat)(T:TypeId)(sz:Nat)(T0:TypeId)(pre post:List AV)(h0:σ.get d0=some (.cells T0 (pre++.bw::post)))(hne:Nat.beq d0 d=false)(hi:G.ids.contains d=false)(hc:env.clean (Nat.beq d)=true)(hs:σ.clean (Nat.beq d)=true):
  aU G env σ env ((d,.slice T sz [] 0 false)::σ.set d0 (.cells T0 (pre++.own d::post))):=λcx I β a w h h'=>by
 let β':Nat→Value:=λx=>if x=d then .slice none 0 0 else β x
 have hne:d0≠d:=λe=>by subst e;simp at hne
 have hb:∀x,Nat.beq d x=false→β' x=β x:=λx hx=>by
  have:x≠d:=λe=>by subst e;simp at hx
  show(if x=d then _ else β x)=_
  rw[if_neg this]
 have hbd:β' d=.slice none 0 0:=by show(if d=d then _ else _)=_;rw[if_pos rfl]
 have dB:∀x,x≠d→Sto.get ((d,.slice T sz [] 0 false)::σ.set d0 (.cells T0 (pre++.own d::post))) x=if x=d0 then some (.cells T0 (pre++.own d::post))else σ.get x:=λx hx=>by
  rw[Sto.aD,if_neg (Ne.symm hx),Sto.b9,h0];rfl
 have hsome:∀x,x≠d→(Sto.get ((d,.slice T sz [] 0 false)::σ.set d0 (.cells T0 (pre++.own d::post))) x).isSome→(σ.get x).isSome:=λx hx hs=>by
  rw[dB x hx]at hs
  split at hs
  ·rename_i e;subst e;rw[h0];rfl
  ·exact hs
 refine⟨I,β',{h with aZ:=λx o e=>?_,bz:=λx y ex ey hxy b=>?_,keep:=λx hx=>?_},λu=>?_⟩
 ·by_cases hx:x=d
  ·subst hx
   rw[Sto.aD,if_pos rfl]at e
   cases e
   simp only[aa,hbd]
   exact .inr (.inl ⟨trivial,trivial,trivial⟩)
  ·rw[dB x hx]at e
   split at e
   ·rename_i e';subst e';cases e
    have ho:=h.aZ x _ h0
    obtain⟨c1,c2⟩:=Sto.bR hs x _ h0
    simp only[fe]at c2
    simp only[aa,hb x c1]at ho ⊢
    rcases ho with q|⟨b,arr,e1,e2,e3,e4⟩
    ·exact .inl q
    ·refine .inr ⟨b,arr,e1,e2,ye pre _ e3 (λy v hy hr=>jk hb y v ?_ hr) (λv hv=>?_),e4⟩
     ·exact yf c2 y (by rcases hy with hy|hy<;>simp[hy])
     ·simp only[Rep,ak]at hv
      simp only[Rep,hv,hbd,eV,and_self]
   ·obtain⟨c1,c2⟩:=Sto.bR hs x o e
    exact(h.aZ x o e).beta hb c1 c2
 ·by_cases hx:x=d
  ·subst hx;rw[hbd];simp[rE]
  ·by_cases hy:y=d
   ·subst hy;rw[hbd];simp[rE]
   ·rw[hb x (by rw[←Bool.not_eq_true,Nat.beq_eq];exact Ne.symm hx),hb y (by rw[←Bool.not_eq_true,Nat.beq_eq];exact Ne.symm hy)]
    exact h.bz x y (hsome x hx ex) (hsome y hy ey) hxy b
 ·have:d≠x:=λe=>by subst e;simp at hi;exact hi hx
  rw[hb x (by rw[←Bool.not_eq_true,Nat.beq_eq];exact this)]
  exact h.keep x hx
 ·exact jk hb _ _ (Env.bR hc u) (h' u)
end Go.Proofs.YtmnbolcmepihlaaGreat
namespace Go.Proofs.YtmnbolcmepihlaaGreat
set_option linter.all false
open Go
theorem aN.stay{G:Gl}{cx:Cx}{I:Imm}{β:Nat→Value}{σ:Sto}{w w':World}(h:aN G cx I β σ w)(hk:∀b,b<w.heap.size→w'.heap[b]?=w.heap[b]?)(hs:w.heap.size≤w'.heap.size)(ht:w'.tape=w.tape)(ho:w'.os=w.os)(hu:w'.output=w.output)(hdr:w.drawn≤w'.drawn):aN G cx I β σ w':=by
  have hK:Kept w w' w.heap.size:=⟨λk _ hlt=>hk k hlt,hs,ht,ho,hu,hdr⟩
  exact{good:=λb o v hv=>by
            have h1:=h.good b o v hv
            have hlt:b<w.heap.size:=World.block_lt_of_cell? w _ h1
            rw[World.cell?_of_block (w:=w) (hk b hlt)]
            exact h1
        dn:=λb v hv=>by
            obtain⟨es,clock,h1,h2⟩:=h.dn b v hv
            exact⟨es,clock,by rw[hk b (bf h1)];exact h1,h2⟩
        en:=h.en,fc:=h.fc
        frame:=λb hb hm=>by rw[hk b (Nat.lt_of_lt_of_le hb h.size)];exact h.frame b hb hm
        size:=Nat.le_trans h.size hs,tape:=ht.trans h.tape,os:=ho.trans h.os,output:=hu.trans h.output,drawn:=Nat.le_trans h.drawn hdr
        aZ:=λd o hd=>(h.aZ d o hd).keep hK rfl (λe=>by have:=h.jD hd e;omega) (aK.refl I) (λ_ _ _=>rfl) (HLe.refl β)
        bz:=h.bz,keep:=h.keep}
mutual
def AV.gl:AV→Bool
 |.int _ _=>true
 |.bool _=>true
 |.str _=>true
 |.undef=>true
 |.tup cs=>jy cs
 |.agg cs=>jy cs
 |_=>false
def jy:List AV→Bool
 |[]=>true
 |x::r=>x.gl&&jy r
end
mutual
theorem Rep.gl{I I':Imm}{β β':Nat→Value}:∀(a:AV) (v:Value),a.gl=true→Rep I β a v→Rep I' β' a v
 |.int _ _,v,_,h=>by simpa only[Rep,ak]using h
 |.bool _,v,_,h=>by simpa only[Rep,ak]using h
 |.str _,v,_,h=>by simpa only[Rep,ak]using h
 |.undef,v,_,h=>by simpa only[Rep,ak]using h
 |.tup cs,v,hs,h=>by
  simp only[Rep,AV.gl]at h hs ⊢
  obtain⟨vs,h1,h2⟩:=h
  exact⟨vs,h1,aM.gl cs _ hs h2⟩
 |.agg cs,v,hs,h=>by
  simp only[Rep,AV.gl]at h hs ⊢
  obtain⟨vs,h1,h2⟩:=h
  exact⟨vs,h1,aM.gl cs _ hs h2⟩
 |.de,_,hs,_|.lst _ _,_,hs,_|.cH _,_,hs,_|.fn _ _,_,hs,_|.bw,_,hs,_|.jB,_,hs,_|.own _,_,hs,_|.ptr _ _,_,hs,_|.bG _,_,hs,_|.cfn _ _,_,hs,_|.sl0,_,hs,_|.hnd _ _,_,hs,_=>by simp[AV.gl]at hs
theorem aM.gl{I I':Imm}{β β':Nat→Value}:∀(a:List AV) (v:List Value),jy a=true→aM I β a v→aM I' β' a v
 |[],v,_,h=>h
 |x::r,v,hs,h=>by
  simp only[aM,jy,Bool.and_eq_true]at h hs ⊢
  obtain⟨u,us,h1,h2,h3⟩:=h
  exact⟨u,us,h1,Rep.gl x u hs.1 h2,aM.gl r us hs.2 h3⟩
end
theorem nD{I:Imm}{sz:Nat}:∀(xs:List (List AV)) (i:Nat),(∀e∈xs,e.length=sz)→i<xs.length→∃A B,xs.flatten=A++xs.getD i []++B∧A.length=i*sz∧(∀e',(xs.set i e').flatten=A++e'++B)
 |[],_,_,h=>by simp at h
 |e::r,0,hl,_=>⟨[],r.flatten,by simp,by simp,by simp⟩
 |e::r,i+1,hl,h=>by
  obtain⟨A,B,h1,h2,h3⟩:=nD (I:=I) r i (λx hx=>hl x (by simp[hx])) (by simpa using h)
  refine⟨e++A,B,by simp[h1],?_,by simp[h3]⟩
  rw[List.length_append,h2,hl e (by simp),Nat.add_mul];omega
section ops
variable {G:Gl}{o:Oper}{env:Env}{σ:Sto}{x y:Operand}
theorem Y.ad3{fo:Operand}{args:Array Operand}{k:Array TypeId}{f:FuncId}{cap avs ps:List AV}{σs:Sto}{r:AV}(h:o.op=.call ⟨.value fo,args,k⟩)(hf:env.ev fo=.fn f cap)
  (iX:∀(args:Array Value) (w:World),(callFunc f args).run G.P w=.ok (.enter f args) w) (hro:RO G.P f [] avs r) (hp:env.kU args.toList=some ps) (ha:eS (σs.freeze σs.ids) (ps++cap) avs) (hs:nB σ σs)
  (hr:r.gl=true):Yields G o env.ev σ [] σs.ids r:=by
 intro σ' cx I β w ρ hR hw _ hop
 have hf1:=hop fo (by simp[h,Op.operands,Call.operands])
 rw[hf]at hf1
 simp only[Rep]at hf1
 obtain⟨vs,hf1,hcap⟩:=hf1
 rw[nA h hf1 iX]
 have hsub:∀d o,σs.get d=some o→σ'.get d=some o:=λd o hd=>by
  obtain⟨p,p1,p2,p3⟩:=iy σs d o hd
  rw[hR d (by rw[←p2];exact List.mem_map.2 ⟨p,p1,rfl⟩),←p2,←p3];exact hs.mem p p1
 obtain⟨I1,hle,hw1⟩:=(hw.sub hsub).nU σs.ids
 have hargs:=eO _ _ _ _ (kS env.ev ρ args.toList λx hx=>hop x (by simp only[h,Op.operands,Call.operands];simp;right;simpa using hx)) hcap
 rw[Env.mC hp]at hargs
 have kT:=ha.rep hw1 _ (gH hle (HLe.refl β) _ _ hargs)
 have hin:=hw1.tu (P:=G.P) (σc:=[]) (by simp)
 refine Calls.mono (hro _ w I1 β _ hin kT) ?_
 rintro e w' ⟨v,he,r',σ2,I',β',⟨hr1,hr2⟩,fG,hw'⟩
 subst hr1 hr2
 have hst:aN G cx I β σ' w':=hw.stay (λb hb=>hw'.frame b hb (by simp[fU,jl,Sto.ids])) hw'.size hw'.tape hw'.os hw'.output hw'.drawn
 exact⟨v,he,I,β,Rep.gl r' v hr fG,hst,aK.refl I,λ_ _=>rfl⟩
theorem Y.aiU{α:Type}[Inhabited α]{T E sz d T' n:Nat}{k:IntKind}{i:Int}{fz:Bool}(rs:List α)(enc:α→List AV)(h:o.op=.indexAddr T x y)(hx:env.ev x=.own d)(hy:env.ev y=.int k i)(hd:σ.get d=some (.slice T' sz (rs.map enc) n fz))(hT:SlS G.P T E sz)
  (hi:0≤i∧i<rs.length):Yields G o env.ev σ [] [d] (.ptr d (i.toNat*sz)):=
 .pure λσ' cx I β w ρ hR hw hop=>by
  have h1:=hop x (by simp[h,Op.operands]);rw[hx]at h1
  have h2:=hop y (by simp[h,Op.operands]);rw[hy]at h2;have h2:=cE h2
  simp only[Rep]at h1
  obtain⟨h1,hs⟩:=h1
  have hob:=hw.aZ d _ (by rw[hR d (by simp)];exact hd)
  simp only[aa,List.length_map]at hob
  have hlt:i.toNat<rs.length:=by omega
  rcases hob with q|⟨_,q,_⟩|⟨b,cap,arr,q1,q2,_⟩
  ·rw[h1,q]at hs;simp[eV]at hs
  ·have:rs=[]:=by simpa using q
   subst this;simp at hlt
  ·refine⟨.pointer (some ⟨b,i.toNat*sz,none⟩),?_,by simp only[Rep];exact⟨b,by rw[q1];rfl,rfl⟩⟩
   have e1:∀w,(underlying T).run G.P w=.ok (.slice E) w:=λw=>by simp[underlying,program,Sem.run,hT.und]
   rw[q1]at h1
   simp[execOp,h,h1,h2,Instr.indexAt,asIntOf,e1,hi,hT.size,dH]
theorem yg{G:Gl}{cx:Cx}{I:Imm}{β:Nat→Value}{σ:Sto}{w:World}(hw:aN G cx I β σ w){d T sz k b:Nat}{fz:Bool}{xs:List (List AV)}(hd:σ.get d=some (.slice T sz xs k fz))(hb:blk (β d)=some b):
  ∃cap arr,β d=.slice (some ⟨b,0,none⟩) xs.length cap∧xs.length≤cap∧cap≤maxLen∧w.heap[b]?=some (.cells arr T (0,0))∧arr.size=cap*sz∧aL I xs.flatten (arr.toList.take (xs.length*sz))∧(∀e∈xs,e.length=sz)∧k≤xs.length∧
   (fz=true→∀o,o<xs.length*sz→I b o=arr[o]?)∧(∀o,k*sz≤o→I b o=none)∧Place cx b∧aM I β (xs.flatten++List.replicate (arr.size-xs.length*sz) .de) arr.toList:=by
 have ho:=hw.aZ d _ hd
 simp only[aa]at ho
 rcases ho with q|⟨q,_⟩|⟨b',cap,arr,q1,q2,q3,q4,q5,q6,q7,q8,q9,q10,q11⟩
 ·rw[q]at hb;simp[blk]at hb
 ·rw[q]at hb;simp[blk]at hb
 ·have:b'=b:=by rw[q1]at hb;simpa [blk]using hb
  subst this
  refine⟨cap,arr,q1,q2,q3,q4,q5,q6,q7,q8,q9,q10,q11,?_⟩
  have e:arr.toList=arr.toList.take (xs.length*sz)++arr.toList.drop (xs.length*sz):=(List.take_append_drop _ _).symm
  rw[e]
  refine eO _ _ _ _ (aL.rep β _ _ q6) ?_
  have hj:∀(l:List Value),aM I β (List.replicate l.length .de) l:=by
   intro l
   induction l with
   |nil=>simp[aM]
   |cons v r ih=>simp only[List.length_cons,List.replicate_succ,aM];exact⟨v,r,rfl,by simp[Rep],ih⟩
  have:=hj (arr.toList.drop (xs.length*sz))
  simpa using this
theorem Y.amd{α:Type}[Inhabited α]{T T':TypeId}{n d p sz k off:Nat}{fz ag:Bool}{i:Int}(rs:List α)(enc:α→List AV)(h:o.op=.load T x)(hx:env.ev x=.ptr d p)(hd:σ.get d=some (.slice T' sz (rs.map enc) k fz))(hp:p=i.toNat*sz+off)
  (hi:0≤i∧i<rs.length) (hT:TyS G.P T n ag) (h0:(ag||Nat.blt 0 n)=true) (hn:Nat.ble (off+n) sz=true) {a:AV} (ha:ldO ag n ((enc (el rs i)).drop off)=some a):Yields G o env.ev σ [] [d] a:=
 .pure λσ' cx I β w ρ hR hw hop=>by
  have hn:off+n≤sz:=by simpa using hn
  have h1:=hop x (by simp[h,Op.operands]);rw[hx]at h1
  simp only[Rep]at h1
  obtain⟨b,h1,h2⟩:=h1
  obtain⟨cap,arr,q1,q2,q3,q4,q5,q6,q7,q8,q9,q10,q11,q12⟩:=yg hw (by rw[hR d (by simp)];exact hd) h1
  have hlt:i.toNat<rs.length:=by omega
  obtain⟨A,B,s1,s2,_⟩:=nD (I:=I) (rs.map enc) i.toNat q7 (by simpa using hlt)
  have jU:(rs.map enc).getD i.toNat []=enc (el rs i):=by
   simp[List.getD_eq_getElem?_getD,hlt,el]
  rw[jU]at s1
  have hz:(enc (el rs i)).length=sz:=q7 _ (by rw[←jU,List.getD_eq_getElem?_getD,List.getElem?_eq_getElem (by simpa using hlt)];exact List.getElem_mem _)
  obtain⟨v,r1,r2⟩:=mO hT (λe=>by subst e;simpa using h0) (off:=p) q4 q12 (by
   rw[s1];simp only[List.length_append,s2,hz];omega)
  refine⟨v,by simp[execOp,h,h2,Instr.loadAt,Instr.sureAddr,r1],?_⟩
  have e:((List.map enc rs).flatten++List.replicate (arr.size-(List.map enc rs).length*sz) AV.de).drop p=(enc (el rs i)).drop off++(B++List.replicate (arr.size-(List.map enc rs).length*sz) AV.de):=by
   rw[s1,hp,List.append_assoc,List.append_assoc,←List.drop_drop,←s2,List.drop_left,List.drop_append_of_le_length (by omega)]
  rw[e]at r2
  have e2:kQ ag n ((enc (el rs i)).drop off++(B++List.replicate (arr.size-(List.map enc rs).length*sz) AV.de))=kQ ag n ((enc (el rs i)).drop off):=by
   have hl:n≤((enc (el rs i)).drop off).length:=by simp;omega
   cases ag with
   |true=>simp only[kQ,cond_true];rw[List.take_append_of_le_length hl]
   |false=>
    simp only[kQ,cond_false]
    have hn0:0<n:=by simpa using h0
    cases hc:(enc (el rs i)).drop off with
    |nil=>rw[hc]at hl;simp at hl;omega
    |cons z t=>rfl
  rw[e2,tF ha]at r2
  exact r2
theorem rS{I:Imm}{β:Nat→Value}{a:List AV}{v:List Value}(hc:ee a=true)(h:aM I β a v):aL I a v:=aM.closed a v hc h
theorem D.aiV{α:Type}[Inhabited α]{T T' d p sz k off n:Nat}{fz ag:Bool}{a:AV}{ca:List AV}{i:Int}{ev:Operand→AV}(rs:List α)(enc:α→List AV)(r':α)(h:o.op=.store T x y)(hx:ev x=.ptr d p)(hy:ev y=a)(hd:σ.get d=some (.slice T' sz (rs.map enc) k fz))(hp:p=i.toNat*sz+off)
  (hi:0≤i∧i<rs.length) (hk:(k:Int)≤i) (hT:TyS G.P T n ag) (hf:a.flat=true) (hca:kg a=some ca) (hcl:ee ca=true) (hn:Nat.beq ca.length n=true) (hl:Nat.ble (off+n) sz=true) (hr:cG (enc (el rs i)) off ca=enc r') :
  dM G o ev σ [d] [] (λr σ'=>r=.undef∧σ'=σ.set d (.slice T' sz ((rs.set i.toNat r').map enc) k false)):=by
 intro cx I β w ρ hw hop
 have hn:ca.length=n:=by simpa using hn
 have hl:off+n≤sz:=by simpa using hl
 have h1:=hop x (by simp[h,Op.operands]);rw[hx]at h1
 have h2:=hop y (by simp[h,Op.operands]);rw[hy]at h2
 simp only[Rep]at h1
 obtain⟨b,h1,h3⟩:=h1
 obtain⟨cap,arr,q1,q2,q3,q4,q5,q6,q7,q8,q9,q10,q11,q12⟩:=yg hw hd h1
 obtain⟨f1,f2⟩:=AV.nX hf h2
 rw[mD hca]at f1
 have l2:=fu _ _ f1
 have hlt:i.toNat<rs.length:=by omega
 obtain⟨A,B,s1,s2,s3⟩:=nD (I:=I) (rs.map enc) i.toNat q7 (by simpa using hlt)
 have jU:(rs.map enc).getD i.toNat []=enc (el rs i):=by simp[List.getD_eq_getElem?_getD,hlt,el]
 rw[jU]at s1
 have hz:(enc (el rs i)).length=sz:=q7 _ (by rw[←jU,List.getD_eq_getElem?_getD,List.getElem?_eq_getElem (by simpa using hlt)];exact List.getElem_mem _)
 have hz':(enc r').length=sz:=by rw[←hr];simp only[cG,List.length_append,List.length_take,List.length_drop,hz];omega
 simp only[List.length_map]at q1 q2 q5 q6 q8
 have hsz:i.toNat*sz+sz≤rs.length*sz:=by
  have:=Nat.mul_le_mul_right sz (show i.toNat+1≤rs.length from hlt)
  rwa [Nat.add_mul,Nat.one_mul]at this
 have hsz2:rs.length*sz≤arr.size:=by rw[q5];exact Nat.mul_le_mul_right sz q2
 have hst:=iY (P:=G.P) q4 (ρ y).cells.toList (off:=p) (by omega) f2
 have l3:(ρ y).cells.size=ca.length:=by simpa using l2
 have hrun:(execOp ρ o).run G.P w=.ok .skip (w.setRow b (cG arr.toList p (ρ y).cells.toList).toArray):=by
  have e1:¬((ρ y).cells.size≠n):=by omega
  simp[execOp,h,h3,Instr.storeAt,Instr.sureAddr,storeVar,hT.size,e1,hst]
 rw[hrun]
 refine⟨.undef,_,I,β,⟨rfl,rfl⟩,by simp[Rep,ak],?_,aK.refl I,λ_ _=>rfl,λx hx=>by rw[Sto.b9,if_neg (by simpa using hx)]⟩
 have hkp:k*sz≤p:=by
  have:k≤i.toNat:=by omega
  have:=Nat.mul_le_mul_right sz this
  omega
 refine hw.turn (d:=d) (Kept.setRow w b _) q11 (λx hx=>by rw[Sto.b9,if_neg hx]) (λx hx hs e=>hw.bz x d hs (by rw[hd];rfl) hx b e (cz h1)) (aK.refl I) (λ_ _ _=>rfl)
  (λo v hv=>?_) (hw.fT q4) (λ_ _=>rfl) (.inr rfl) (HLe.refl β) (.inl h1) λob hob=>?_
 ·
  have ho:o<k*sz:=by
   by_cases ho:o<k*sz
   ·exact ho
   ·rw[q10 o (by omega)]at hv;cases hv
  have hg:=hw.good b o v hv
  simp only[World.cell?,q4]at hg
  simp only[World.cell?,setRow_heap w b arr _ T' _ q4]
  simp only[Option.isSome_none,Bool.false_eq_true,if_false]at hg ⊢
  rw[←hg]
  have:o<p:=by omega
  simp only[cG,List.getElem?_toArray]
  rw[List.append_assoc,List.getElem?_append_left (by simp;omega),List.getElem?_take,if_pos this,Array.getElem?_toList]
 ·rw[Sto.b9,if_pos rfl,hd]at hob
  injection hob with hob
  subst hob
  simp only[aa,List.length_map,List.length_set]
  refine .inr (.inr ⟨b,cap,_,q1,q2,q3,setRow_heap w b arr _ T' _ q4,?_,?_,?_,q8,(λh=>by cases h),q10,q11⟩)
  ·simp only[cG,List.size_toArray,List.length_append,List.length_take,List.length_drop,Array.length_toList];omega
  ·have hcs:=rS (I:=I) hcl f1
   have key:((rs.set i.toNat r').map enc).flatten=A++(cG (enc (el rs i)) off ca)++B:=by
    rw[List.map_set,s3,hr]
   rw[key]
   rw[s1]at q6
   obtain⟨u1,u2,e1,r1,r2⟩:=(cA _ _ _).1 q6
   obtain⟨u3,u4,e2,r3,r4⟩:=(cA _ _ _).1 r1
   have m1:=dx _ _ r3
   have m2:=dx _ _ r4
   have m3:=dx _ _ r2
   have e4:enc (el rs i)=(enc (el rs i)).take off++((enc (el rs i)).drop off):=(List.take_append_drop _ _).symm
   rw[e4]at r4
   obtain⟨u5,u6,e5,r5,r6⟩:=(cA _ _ _).1 r4
   have m5:=dx _ _ r5
   have e6:(enc (el rs i)).drop off=((enc (el rs i)).drop off).take n++(enc (el rs i)).drop (off+n):=by
    rw[←List.drop_drop];exact(List.take_append_drop _ _).symm
   rw[e6]at r6
   obtain⟨u7,u8,e7,r7,r8⟩:=(cA _ _ _).1 r6
   have m7:=dx _ _ r7
   have ml5:u5.length=off:=by rw[m5,List.length_take];omega
   have ml7:u7.length=n:=by rw[m7,List.length_take,List.length_drop];omega
   have jC:(cG arr.toList p (ρ y).cells.toList).take (rs.length*sz)=u3++(u5++(ρ y).cells.toList++u8)++u2:=by
    have ha:arr.toList=(u3++(u5++(u7++u8))++u2)++arr.toList.drop (rs.length*sz):=by
     conv=>lhs;rw[←List.take_append_drop (rs.length*sz) arr.toList]
     rw[e1,e2,e5,e7]
    have hA:(u3++u5).length=p:=by rw[List.length_append,m1,ml5,s2,hp]
    have hl3:(ρ y).cells.toList.length=n:=by rw[l2,hn]
    have hsp:cG arr.toList p (ρ y).cells.toList=(u3++u5)++(ρ y).cells.toList++(u8++(u2++arr.toList.drop (rs.length*sz))):=by
     unfold cG
     rw[hl3]
     have ha2:arr.toList=(u3++u5)++(u7++(u8++(u2++arr.toList.drop (rs.length*sz)))):=by
      conv=>lhs;rw[ha]
      simp only[List.append_assoc]
     have t1:arr.toList.take p=u3++u5:=by rw[ha2,←hA,List.take_left]
     have t2:arr.toList.drop (p+n)=u8++(u2++arr.toList.drop (rs.length*sz)):=by
      rw[←List.drop_drop]
      conv=>lhs;rw[ha2]
      rw[←hA,List.drop_left,←ml7,List.drop_left]
     rw[t1,t2]
    rw[hsp]
    have hlen:((u3++u5)++(ρ y).cells.toList++(u8++u2)).length=rs.length*sz:=by
     have h9:=congrArg List.length (e1.trans (by rw[e2,e5,e7]))
     simp only[List.length_take,List.length_append,Array.length_toList]at h9
     simp only[List.length_append,hl3]
     omega
    have:(u3++u5)++(ρ y).cells.toList++(u8++(u2++arr.toList.drop (rs.length*sz)))=((u3++u5)++(ρ y).cells.toList++(u8++u2))++arr.toList.drop (rs.length*sz):=by simp
    rw[this,←hlen,List.take_left]
    simp
   rw[jC]
   refine(cA _ _ _).2 ⟨_,_,rfl,(cA _ _ _).2 ⟨_,_,rfl,r3,?_⟩,r2⟩
   unfold cG
   rw[hn]
   exact(cA _ _ _).2 ⟨_,_,rfl,(cA _ _ _).2 ⟨_,_,rfl,r5,hcs⟩,r8⟩
  ·intro e he
   obtain⟨z,hz1,rfl⟩:=List.mem_map.1 he
   rcases List.mem_or_eq_of_mem_set hz1 with hz1|rfl
   ·exact q7 _ (List.mem_map_of_mem hz1)
   ·exact hz'
end ops
end Go.Proofs.YtmnbolcmepihlaaGreat
namespace Go.Proofs.YtmnbolcmepihlaaGreat
set_option linter.all false
open Go
section
variable {P:Program}{w:World}{d:Nat}{xs ys:Array Value}{f:Field}{fs:List Field}{T off:Nat}{r:Bool}
theorem agM:(Op.eqFields d xs ys []).run P w=.ok true w:=rfl
theorem aaZ{k k':IntKind}{a b:Int}(hf:(f.name== "_",f.type,f.offset)=(false,T,off))(hz:∀w,(isAgg T).run P w=.ok false w)(hT:P.underlying T=some (.int k'))(hx:xs[off]?=some (.int k a))(hy:ys[off]?=some (.int k b))
  (h:(Op.eqFields (d+1) xs ys fs).run P w=.ok r w):(Op.eqFields (d+1) xs ys (f::fs)).run P w=.ok (decide (a=b)&&r) w:=by
 simp only[Prod.mk.injEq]at hf
 obtain⟨h1,h2,h3⟩:=hf
 have h1:f.name≠ "_":=by simpa using h1
 simp only[Op.eqFields,h2,h3,if_pos h1]
 have px:(part T xs off).run P w=.ok (.int k a) w:=by simp[part,hz,Array.getElem!_eq_getD,Array.getD_eq_getD_getElem?,hx]
 have py:(part T ys off).run P w=.ok (.int k b) w:=by simp[part,hz,Array.getElem!_eq_getD,Array.getD_eq_getD_getElem?,hy]
 simp only[Sem.run_bind,px,py,Result.andThen_ok,run_equalIn_int w d T k k' a b hT]
 by_cases e:a=b
 ·simp[e,h]
 ·simp[e]
theorem vh{l:List Field}{x:Bool×Nat×Nat}{r:List (Bool×Nat×Nat)}(h:l.map (λf=>(f.name== "_",f.type,f.offset))=x::r):∃f t,l=f::t∧(f.name== "_",f.type,f.offset)=x∧t.map (λf=>(f.name== "_",f.type,f.offset))=r:=by
 cases l with
 |nil=>simp at h
 |cons f t=>simp only[List.map_cons,List.cons.injEq]at h;exact⟨f,t,rfl,h.1,h.2⟩
theorem abx{l:List Field}(h:l.map (λf=>(f.name== "_",f.type,f.offset))=[]):l=[]:=by simpa using h
end
theorem A.late{G:Gl}{c:Code}{Q:Exit→Env→Sto→Prop}{env:Env}{σ:Sto}(h:aj G c (λe env σ=>∃bA σ2,aU G env σ bA σ2∧Q e bA σ2) env σ):aj G c Q env σ:=by
 refine aj.of λcx a w hr=>wp_mono (aj.use h cx a w hr) ?_
 rintro e a' w' ⟨env',σ',hr',bA,σ2,hw,hq⟩
 exact⟨bA,σ2,hw.rel hr',hq⟩
theorem agN{α:Type}(enc:α→List AV)(h:∀r,(enc r).all AV.one=true)(l:List α):(l.map enc).flatten.all AV.one=true:=by
 induction l with
 |nil=>rfl
 |cons x r ih=>rw[List.map_cons,List.flatten_cons,List.all_append,h x,ih];rfl
theorem Z.slice{α:Type}{G:Gl}{o:Oper}{env:Env}{σ:Sto}{T E sz:Nat}{x:Operand}{f:Bool}{lo hi:Option Operand}(rs:List α)(enc:α→List AV)(a b:Nat)(h:o.op=.slice T x lo hi none)(hx:er σ (env.ev x) (.lst f (rs.map enc)))(hT:SlS G.P T E sz)(hlen:∀r,(enc r).length=sz)
  (hlo:iE env.ev lo=(a:Int)) (hhi:mQ env.ev rs.length hi=(b:Int)) (ilo:lN env.ev lo) (ihi:lN env.ev hi) (hab:a≤b∧b≤rs.length) (R:List Nat) (hR:∀σ':Sto,(∀d∈R,σ'.get d=σ.get d)→er σ' (env.ev x) (.lst f (rs.map enc))) :
  Yields G o env.ev σ [] R (.lst false (((rs.take b).drop a).map enc)):=by
 have hhi:mQ env.ev (rs.map enc).length hi=(b:Int):=by rw[List.length_map];exact hhi
 have:=Y.slice (G:=G) h hx hT (λe he=>by obtain⟨r,_,rfl⟩:=List.mem_map.1 he;exact hlen r) ilo ihi (by rw[hlo,hhi,List.length_map];omega) R hR
 rw[hlo,hhi,Int.toNat_natCast,Int.toNat_natCast]at this
 rwa [List.map_drop,List.map_take]
theorem cQ{P:Program}{T f off n FT:Nat}{ag:Bool}{fs:Array Field}(hu:P.underlying T=some (.struct fs))(hf:(fs[f]?).map (λg=>(g.type,g.offset))=some (FT,off))(ht:TyS P FT n ag)(hp:ag=false→n=1):ct P T f off n ag where
 pos:=hp
 run:=λcs w h=>by
  cases hg:fs[f]? with
  |none=>rw[hg]at hf;cases hf
  |some g=>
   rw[hg]at hf
   simp only[Option.map_some,Option.some.injEq,Prod.mk.injEq]at hf
   simp only[Instr.field,Sem.run_bind,run_underlying hu,Result.andThen_ok,hg,hf.1,hf.2,asAgg,Sem.run_pure]
   cases ag with
   |true=>simp[part,ht.agg,ht.size]
   |false=>
    have:=hp rfl
    subst this
    simp[part,ht.agg,Array.getD_eq_getD_getElem?,Array.getElem?_eq_getElem (show off<cs.size by omega)]
end Go.Proofs.YtmnbolcmepihlaaGreat
namespace Go.Proofs.YtmnbolcmepihlaaGreat
set_option linter.all false
open Go
section win
variable {G:Gl}{o:Oper}{ev:Operand→AV}{σ:Sto}
theorem aa.ame{cx:Cx}{I:Imm}{β:Nat→Value}{w:World}{d T sz k:Nat}{xs:List (List AV)}(h:aa cx I β w d (.slice T sz xs k true))(hk:k=xs.length):aa cx I β w d (.win T sz xs):=by
 simp only[aa]at h ⊢
 rcases h with q|⟨q,q2,_⟩|⟨b,cap,arr,q1,q2,q3,q4,q5,q6,q7,q8,q9,q10,q11⟩
 ·exact .inl q
 ·exact .inr (.inl ⟨q,q2⟩)
 ·refine .inr (.inr ⟨b,0,cap,arr,q1,q2,q3,q4,λ_=>by omega,?_,q7,λ_ o ho=>q10 o (by rw[hk];omega),q11⟩)
  refine jR xs 0 _ q6 λj v hv=>?_
  rw[Nat.zero_add]
  rw[List.getElem?_take]at hv
  split at hv
  ·rename_i hlt
   rw[q9 trivial j hlt]
   simpa using hv
  ·cases hv
theorem aU.win{env:Env}{d T sz k:Nat}{xs:List (List AV)}(hd:σ.get d=some (.slice T sz xs k true))(hk:k=xs.length):aU G env σ env (σ.set d (.win T sz xs)):=λcx I β a w h h'=>by
 refine⟨I,β,{h with aZ:=λx ob hx=>?_,bz:=λx y hx hy=>?_},h'⟩
 ·rw[Sto.b9]at hx
  split at hx
  ·rename_i e
   subst e
   rw[hd]at hx
   cases hx
   exact(h.aZ _ _ hd).ame hk
  ·exact h.aZ x ob hx
 ·have:∀x,(Sto.get (σ.set d (.win T sz xs)) x).isSome→(σ.get x).isSome:=λx hx=>by
   rw[Sto.b9]at hx
   split at hx
   ·rename_i e;subst e;rw[hd];rfl
   ·exact hx
  exact h.bz x y (this x hx) (this y hy)
theorem D.aiW{T E sz T' d d2:Nat}{x:Operand}{lo:Option Operand}{xs:List (List AV)}(h:o.op=.slice T x lo none none)(hx:ev x=.own d)(hd:σ.get d=some (.win T' sz xs))(hT:SlS G.P T E sz)(ilo:lN ev lo)
  (hlo:0≤iE ev lo∧iE ev lo≤xs.length) (hi:G.ids.contains d2=false) (hc:(σ.minus [d]).clean [d2].contains=true) :
  dM G o ev σ [d,d2] [d2] (λr σ'=>r=.own d2∧σ'=(d2,.win T' sz (xs.drop (iE ev lo).toNat))::σ.minus [d]):=by
 intro cx I β w ρ hw hop
 have hs1:=hop x (by simp[h,Op.operands])
 rw[hx]at hs1
 simp only[Rep]at hs1
 obtain⟨hs1,hs2⟩:=hs1
 generalize hl:iE ev lo=l at hlo ⊢
 have hw1:aN G cx I β (σ.minus [d]) w:=hw.sub λx ob hx=>by rw[Sto.cL]at hx;split at hx<;>first|cases hx|exact hx
 have hw2:=hw1.l8 (mat:=[d2]) (σ2:=(d2,.win T' sz (xs.drop l.toNat))::σ.minus [d]) (env:=[]) ⟨λx hx=>by rw[Sto.aD,if_neg (λe=>hx (by simp[e]))],λx hx=>by simp at hx;subst hx;simpa using hi,rfl,hc,λx hx dm n h=>by simp at hx;subst hx;rw[Sto.aD,if_pos rfl]at h;cases h⟩
 have dB:∀x,x≠d2→dw β [d2] x=β x:=λx hx=>by simp[dw,hx]
 have ho:=hw.aZ d _ hd
 simp only[aa]at ho
 have run:∀(a:Option Addr) (c:Nat),ρ x=.slice a xs.length c→xs.length≤c→(execOp ρ o).run G.P w=.ok (.value (.slice (if c=l.toNat then a else a.map (·.add (l.toNat*sz))) (xs.length-l.toNat) (c-l.toNat))) w:=by
  intro a c h1 h2
  have e1:(Instr.sliceBounds true xs.length c (lo.map ρ) none none).run G.P w=.ok (l.toNat,xs.length,c) w:=by
   cases lo with
   |none=>
    simp only[iE]at hl
    subst hl
    simp[Instr.sliceBounds]
   |some y=>
    obtain⟨k,n,q1,q2⟩:=rO ilo (hop y (by simp[h,Op.operands]))
    simp only[iE,q1]at hl
    subst hl
    have:=run_sliceBound (P:=G.P) (k:=k) (code:=.sliceB) (w:=w) hlo
    simp[Instr.sliceBounds,q2,this]
  have e2:∀w,(underlying T).run G.P w=.ok (.slice E) w:=λw=>run_underlying hT.und w
  simp only[execOp,h,Instr.sliceAt,Instr.slice,h1,Sem.run_bind,e2,Result.andThen_ok,e1,hT.size,Sem.run_pure,Option.map_none]
 have fin:∀(v':Value),(execOp ρ o).run G.P w=.ok (.value v') w→eV v'=true→(∀b∈bD v',b∈bD (β d))→aa cx I (dN β d2 v') w d2 (.win T' sz (xs.drop l.toNat))→
   fQ G.P (λv w'=>∃(av:AV) (σ':Sto) (I':Imm) (β':Nat→Value),(av=.own d2∧σ'=(d2,aV.win T' sz (xs.drop l.toNat))::σ.minus [d])∧Rep I' β' av v∧aN G cx I' β' σ' w'∧aK I I'∧(∀x,x∉[d2]→β' x=β x)∧(∀x,x∉[d,d2]→σ'.get x=σ.get x)) ((execOp ρ o).run G.P w):=by
  intro v' hrun hsl hbd hob
  rw[hrun]
  refine⟨.own d2,_,I,dN β d2 v',⟨rfl,rfl⟩,by simp only[Rep,bu,hsl,and_self],?_,aK.refl I,λx hx=>bJ β v' (by simpa using hx),λx hx=>?_⟩
  ·have hcl:∀x ob,(σ.minus [d]).get x=some ob→x≠d2∧fe [d2].contains ob=false:=λx ob hx=>by
    obtain⟨c1,c2⟩:=Sto.bR hc x ob hx
    exact⟨by simpa using c1,c2⟩
   have hb0:∀x,[d2].contains x=false→dN β d2 v' x=β x:=λx hx=>bJ β v' (by simpa using hx)
   refine{hw1 with aZ:=λx ob hx=>?_,bz:=λx y hx hy hne b=>?_,keep:=λx hx=>?_}
   ·rw[Sto.aD]at hx
    split at hx
    ·rename_i e;subst e;cases hx;exact hob
    ·obtain⟨c1,c2⟩:=Sto.bR hc x ob hx
     exact(hw1.aZ x ob hx).beta hb0 c1 c2
   ·have side:∀x,(Sto.get ((d2,aV.win T' sz (xs.drop l.toNat))::σ.minus [d]) x).isSome→x≠d2→(σ.get x).isSome∧x≠d:=λx hx hn=>by
     rw[Sto.aD,if_neg (Ne.symm hn),Sto.cL]at hx
     split at hx
     ·cases hx
     ·rename_i hm;exact⟨hx,by simpa using hm⟩
    by_cases hx2:x=d2
    ·subst hx2
     have hy2:y≠x:=λe=>hne e.symm
     obtain⟨s1,s2⟩:=side y hy hy2
     rw[bu,bJ β v' hy2]
     intro e1 e2
     exact hw.bz y d s1 (by rw[hd];rfl) s2 b e2 (hbd b e1)
    ·obtain⟨s1,s2⟩:=side x hx hx2
     rw[bJ β v' hx2]
     by_cases hy2:y=d2
     ·subst hy2
      rw[bu]
      intro e1 e2
      exact hw.bz x d s1 (by rw[hd];rfl) s2 b e1 (hbd b e2)
     ·obtain⟨t1,t2⟩:=side y hy hy2
      rw[bJ β v' hy2]
      exact hw.bz x y s1 t1 hne b
   ·have:x≠d2:=λe=>by subst e;rw[←Bool.not_eq_true]at hi;exact hi (by simpa using hx)
    rw[bJ β v' this];exact hw.keep x hx
  ·have hx:x≠d∧x≠d2:=by simpa using hx
   rw[Sto.aD,if_neg (Ne.symm hx.2),Sto.cL,if_neg (by simpa using hx.1)]
 rcases ho with q|⟨q,rfl⟩|⟨b,o0,cap,arr,q1,q2,q3,q4,q5,q6,q7,q8,q9⟩
 ·rw[q]at hs1;rw[hs1]at hs2;simp[eV]at hs2
 ·have hl0:l=0:=by simp at hlo;omega
  subst hl0
  refine fin _ (run none 0 (by rw[hs1,q];rfl) (by simp)) rfl (by simp[bD,blk]) ?_
  simp only[aa,bu];exact .inr (.inl ⟨by simp,by simp⟩)
 ·have hln:l.toNat≤xs.length:=by omega
  refine fin _ (run _ cap (by rw[hs1,q1]) q2) rfl ?_ ?_
  ·intro b' hb'
   rw[q1]
   split at hb'
   ·exact hb'
   ·simp only[Option.map_some,dH]at hb';exact hb'
  ·simp only[aa,bu]
   have hlen:(xs.drop l.toNat).length=xs.length-l.toNat:=by simp
   refine .inr (.inr ?_)
   by_cases hcl:cap=l.toNat
   ·have hnil:xs.drop l.toNat=[]:=List.drop_eq_nil_of_le (by omega)
    refine⟨b,o0,cap-l.toNat,arr,by rw[if_pos hcl,hlen],by rw[hlen];omega,by omega,q4,λhh=>by omega,by rw[hnil];trivial,by rw[hnil];simp,λhh=>by omega,q9⟩
   ·refine⟨b,o0+l.toNat*sz,cap-l.toNat,arr,?_,by rw[hlen];omega,by omega,q4,λhh=>?_,mP _ _ _ q7 q6,λe he=>q7 e (List.mem_of_mem_drop he),λhh o ho=>?_,q9⟩
    ·rw[if_neg hcl,hlen];simp[dH]
    ·rw[hlen]at hh
     have:=q5 (by omega)
     have e:o0+l.toNat*sz+(cap-l.toNat)*sz=o0+cap*sz:=by
      rw[Nat.add_assoc,←Nat.add_mul];congr 2;omega
     omega
    ·rw[hlen]at hh ho
     refine q8 (by omega) o ?_
     have e:o0+l.toNat*sz+(xs.length-l.toNat)*sz=o0+xs.length*sz:=by
      rw[Nat.add_assoc,←Nat.add_mul];congr 2;omega
     omega
theorem qK{I:Imm}{b sz:Nat}:∀{xs ys:List (List AV)} {o:Nat},(∀e∈xs,e.length=sz)→(cI I b (xs++ys) o↔cI I b xs o∧cI I b ys (o+xs.length*sz))
 |[],ys,o,_=>by simp[cI]
 |x::r,ys,o,h=>by
  simp only[List.cons_append,cI,List.length_cons]
  rw[qK (λe he=>h e (by simp[he])),h x (by simp),Nat.add_mul,Nat.one_mul,and_assoc,Nat.add_assoc,Nat.add_comm sz]
theorem ta{P:Program}(w:World)(t ty e:TypeId)(i:TypeInfo)(ht:P.underlying t=some (.slice e))(hi:P.info? e=some i)
  (g off sLen sCap:Nat) (cur:Array Value) (hg:w.heap[g]?=some (.cells cur e (0,0)))
  (a:Addr) (m c:Nat) (news:List Value) (hl:news.length=m*i.size) (hnews:∀j u,news[j]?=some u→w.cell? (a.add j)=some u) (h1:∀u∈news,u.oneCell'=true)
  (hroom:sLen+m≤sCap) (hfit:off+sLen*i.size+news.length≤cur.size) :
  (Builtin.append_ #[t,t] ty #[.slice (some ⟨g,off,none⟩) sLen sCap,.slice (some a) m c]).run P w =
   .ok (.slice (some ⟨g,off,none⟩) (sLen+m) sCap) (w.setRow g (cur.toList.take (off+sLen*i.size)++news++cur.toList.drop (off+sLen*i.size+news.length)).toArray):=by
 have hf:=run_firstCells_some (P:=P) w i.size m a m c news hl hnews
 have hst:=run_storeCells_at P g (off+sLen*i.size) e news 0 cur w hg (by simpa using hfit) h1
 simp only[Nat.add_zero]at hst
 simp[Builtin.append_,run_underlying ht,Go.sizeOf,typeInfo,hi,Builtin.lenOf,hroom,hf,dH,hst]
theorem D.agO{s x:Operand}{T E sz bytes d d2 T':Nat}{f:Bool}{xs ys:List (List AV)}(h:o.op=.call ⟨.builtin .append,#[s,x],#[T,T]⟩)(hs:ev s=.own d)(hd:σ.get d=some (.win T' sz xs))(hx:er σ (ev x) (.lst f ys))(hT:fV G.P T E sz bytes)(hE:T'=E)
  (hys:∀e∈ys,e.length=sz) (h1:ys.flatten.all AV.one=true) (hb:(xs.length+ys.length)*bytes≤140737488355328) (h63:xs.length+ys.length≤maxLen) (hi:G.ids.contains d2=false)
  (hc:(σ.minus [d]).clean [d2].contains=true) :
  dM G o ev σ [d,d2] [d2] (λr σ'=>r=.own d2∧σ'=(d2,.win T' sz (xs++ys))::σ.minus [d]):=by
 subst hE
 intro cx I β w ρ hw hop
 have hs1:=hop s (by simp[h,Op.operands,Call.operands])
 rw[hs]at hs1
 simp only[Rep]at hs1
 obtain⟨hs1,hs2⟩:=hs1
 have hx1:=hx.rep hw _ (hop x (by simp[h,Op.operands,Call.operands]))
 simp only[Rep,ak]at hx1
 obtain⟨a,c,hx1,hx2,hx3,_,hx4⟩:=hx1
 obtain⟨i,z,hi1,hz1,hz2,hz3,hz4⟩:=hT.info
 have hnews:∃news:List Value,aL I ys.flatten news∧(ys.length=0∨∃ad:Addr,a=some ad∧∀j u,news[j]?=some u→w.cell? (ad.add j)=some u):=by
  rcases hx4 with rfl|⟨b,o,rfl,hr⟩
  ·exact⟨[],rfl,.inl rfl⟩
  ·obtain⟨vs,q1,q2⟩:=jF hw.good ys o hr
   exact⟨vs,q1,.inr ⟨_,rfl,λj u hu=>by rw[dH];exact q2 j u hu⟩⟩
 obtain⟨news,hn1,hn2⟩:=hnews
 have hnl:news.length=ys.length*sz:=by rw[dx _ _ hn1];exact iu ys hys
 have hone:=yc _ _ h1 hn1
 have hsm:xs.length+ys.length≤9223372036854775807:=by simp only[maxLen]at h63;omega
 have hw1:aN G cx I β (σ.minus [d]) w:=hw.sub λx ob hx=>by rw[Sto.cL]at hx;split at hx<;>first|cases hx|exact hx
 have hw2:=hw1.l8 (mat:=[d2]) (σ2:=(d2,.win T' sz (xs++ys))::σ.minus [d]) (env:=[]) ⟨λx hx=>by rw[Sto.aD,if_neg (λe=>hx (by simp[e]))],λx hx=>by simp at hx;subst hx;simpa using hi,rfl,hc,λx hx dm n h=>by simp at hx;subst hx;rw[Sto.aD,if_pos rfl]at h;cases h⟩
 have dB:∀x,x≠d2→dw β [d2] x=β x:=λx hx=>by simp[dw,hx]
 have fin:∀(v':Value) (w':World) (b:Nat) (I':Imm),(execOp ρ o).run G.P w=.ok (.value v') w'→eV v'=true→Kept w w' b→Place cx b→(∀x,((σ.minus [d]).get x).isSome→b∉bD (β x))→
   aK I I'→(∀b',b'≠b→∀o,I' b' o=I b' o)→
   (∀(o:Nat) v,I' b o=some v→w'.cell? ⟨b,o,none⟩=some v)→I' b none=none→(blk v'=some b∨bD v'=[])→aa cx I' (dN β d2 v') w' d2 (.win T' sz (xs++ys))→
   fQ G.P (λv w'=>∃(av:AV) (σ':Sto) (I':Imm) (β':Nat→Value),(av=.own d2∧σ'=(d2,aV.win T' sz (xs++ys))::σ.minus [d])∧Rep I' β' av v∧aN G cx I' β' σ' w'∧aK I I'∧(∀x,x∉[d2]→β' x=β x)∧(∀x,x∉[d,d2]→σ'.get x=σ.get x)) ((execOp ρ o).run G.P w):=by
  intro v' w' b I' hrun hsl hk hp hfree hle hI rN hnm hbd hob
  rw[hrun]
  refine⟨.own d2,_,I',dN β d2 v',⟨rfl,rfl⟩,by simp only[Rep,bu,hsl,and_self],?_,hle,λx hx=>bJ β v' (by simpa using hx),λx hx=>?_⟩
  ·refine hw2.turn (d:=d2) hk hp (λ_ _=>rfl) (λx hx hsm e=>?_) hle hI rN hnm (λx hx=>by rw[bJ β v' hx,dB x hx]) (.inl (by simpa using hi)) (λx=>?_) (by rw[bu];exact hbd) (λob jS=>?_)
   ·rw[Sto.aD,if_neg (Ne.symm hx)]at hsm
    rw[dB x hx]at e
    exact hfree x hsm e
   ·by_cases hx:x=d2
    ·left;simp[dw,hx]
    ·right;rw[bJ β v' hx,dB x hx]
   ·rw[Sto.aD,if_pos rfl]at jS
    injection jS with jS
    subst jS
    exact hob
  ·have hx:x≠d∧x≠d2:=by simpa using hx
   rw[Sto.aD,if_neg (Ne.symm hx.2),Sto.cL,if_neg (by simpa using hx.1)]
 have other:∀b,blk (β d)=some b→∀x,((σ.minus [d]).get x).isSome→b∉bD (β x):=λb hbd x hx e=>by
  rw[Sto.cL]at hx
  split at hx
  ·cases hx
  ·rename_i hxd
   exact hw.bz x d hx (by rw[hd];rfl) (by simpa using hxd) b e (cz hbd)
 have fresh:∀x,((σ.minus [d]).get x).isSome→w.heap.size∉bD (β x):=λx hx e=>by
  obtain⟨ob,hx⟩:=Option.isSome_iff_exists.1 hx
  exact absurd (hw1.jD hx e) (by omega)
 have j9:∀old,old<xs.length+ys.length→xs.length+ys.length≤grownCap w (xs.length+ys.length) old T'∧grownCap w (xs.length+ys.length) old T'≤maxLen:=λold _=>⟨grownCap_ge _ _ _ _,grownCap_le_maxLen _ _ _ _ h63⟩
 have kf:∀ob,Kept w (w.drew.alloc ob) w.heap.size:=λob=>(Kept.alloc w.drew ob).drew
 have acL:∀(olds:List Value) (cap:Nat),aL I xs.flatten olds→olds.length=xs.length*sz→(∀e∈xs,e.length=sz)→xs.length+ys.length≤cap→cap≤maxLen→
   (execOp ρ o).run G.P w=.ok (.value (.slice (some ⟨w.heap.size,0,none⟩) (xs.length+ys.length) cap)) (w.drew.alloc (.cells (olds.toArray++news.toArray++Builtin.zeroCells z.cells (cap-(xs.length+ys.length))) T'))→
   fQ G.P (λv w'=>∃(av:AV) (σ':Sto) (I':Imm) (β':Nat→Value),(av=.own d2∧σ'=(d2,aV.win T' sz (xs++ys))::σ.minus [d])∧Rep I' β' av v∧aN G cx I' β' σ' w'∧aK I I'∧(∀x,x∉[d2]→β' x=β x)∧(∀x,x∉[d,d2]→σ'.get x=σ.get x)) ((execOp ρ o).run G.P w):=by
  intro olds cap ho1 ho2 ho3 hc1 hc2 hrun
  have hlen:(olds++news).length=(xs++ys).length*sz:=by rw[List.length_append,List.length_append,ho2,hnl,Nat.add_mul]
  let I':Imm:=I.on λb o=>if b=w.heap.size then(olds++news)[o]? else I b o
  have hle:aK I I':=λb o v hv=>by
   cases o with
   |none=>exact hv
   |some o=>
   show(if b=w.heap.size then _ else I b o)=some v
   split
   ·rename_i e;subst e;rw[hw.bV (Nat.le_refl _)]at hv;cases hv
   ·exact hv
  have abz:∀o:Nat,I' w.heap.size o=(olds++news)[o]?:=λo=>by show(if _ then _ else _)=_;rw[if_pos rfl]
  have agP:(olds.toArray++news.toArray++Builtin.zeroCells z.cells (cap-(xs.length+ys.length))).toList=(olds++news)++(Builtin.zeroCells z.cells (cap-(xs.length+ys.length))).toList:=by simp
  refine fin _ _ w.heap.size I' hrun rfl (kf _) (.inl hw.size) fresh hle (λb' hb' o=>by cases o with|none=>rfl|some o=>show(if _ then _ else _)=_;rw[if_neg hb']) (λo v hv=>?_) (hw.bV (Nat.le_refl _) none) (.inl rfl) ?_
  ·rw[abz]at hv
   have hnew:=heap_alloc_new w.drew (.cells (olds.toArray++news.toArray++Builtin.zeroCells z.cells (cap-(xs.length+ys.length))) T')
   have hnew:(w.drew.alloc (.cells (olds.toArray++news.toArray++Builtin.zeroCells z.cells (cap-(xs.length+ys.length))) T')).heap[w.heap.size]?=some (.cells (olds.toArray++news.toArray++Builtin.zeroCells z.cells (cap-(xs.length+ys.length))) T' (0,0)):=hnew
   simp only[World.cell?,hnew]
   have hlt:=(List.getElem?_eq_some_iff.1 hv).1
   have:((olds.toArray++news.toArray++Builtin.zeroCells z.cells (cap-(xs.length+ys.length))).toList)[o]?=some v:=by rw[agP,List.getElem?_append_left hlt];exact hv
   rw[Array.getElem?_toList]at this
   exact this
  ·simp only[aa,bu]
   refine .inr (.inr ⟨w.heap.size,0,cap,_,by rw[List.length_append],by rw[List.length_append];exact hc1,hc2,heap_alloc_new w.drew _,λ_=>?_,?_,?_,λ_ o ho=>?_,.inl hw.size⟩)
   ·simp only[Array.size_append,List.size_toArray,size_zeroCells,hz4,ho2,hnl,←Nat.add_mul]
    rw[Nat.zero_add]
    refine Nat.mul_le_mul_right _ ?_
    omega
   ·refine jR _ 0 (olds++news) ?_ λj v hv=>by rw[Nat.zero_add,abz];exact hv
    rw[List.flatten_append]
    exact dK hle _ _ ((cA _ _ _).2 ⟨_,_,rfl,ho1,hn1⟩)
   ·intro e he
    rcases List.mem_append.1 he with he|he
    ·exact ho3 e he
    ·exact hys e he
   ·rw[abz,List.getElem?_eq_none]
    rw[hlen];omega
 have ho:=hw.aZ d _ hd
 simp only[aa]at ho
 rcases ho with q|⟨q,rfl⟩|⟨b,o0,cap,arr,q1,q2,q3,q4,q5,q6,q7,q8,q9⟩
 ·rw[q]at hs1;rw[hs1]at hs2;simp[eV]at hs2
 ·
  rcases Nat.eq_zero_or_pos ys.length with hm|hm
  ·have hy:ys=[]:=List.eq_nil_of_length_eq_zero hm
   subst hy
   refine fin (.slice none 0 0) w w.heap.size I (cO h ?_) rfl ⟨λ_ _ _=>rfl,Nat.le_refl _,rfl,rfl,rfl,Nat.le_refl _⟩ (.inl hw.size) fresh (aK.refl I) (λ_ _ _=>rfl) (λo v hv=>by rw[hw.bV (Nat.le_refl _)]at hv;cases hv) (hw.bV (Nat.le_refl _) none) (.inr rfl) ?_
   ·rw[hs1,hx1,q]
    cases a<;>simp[Builtin.append_,run_underlying hT.und,Go.sizeOf,typeInfo,hi1,Builtin.lenOf,Builtin.firstCells,loadCells,loadCellsFrom]
   ·simp only[aa,bu];exact .inr (.inl ⟨trivial,rfl⟩)
  ·obtain⟨ad,rfl,hcells⟩:=hn2.resolve_left (by omega)
   have hr:=run_append_nil (P:=G.P) w T o.type T' i z hT.und hi1 hz1 ad ys.length c news (by rw[hz2];exact hnl) hcells hm (by simp at hsm;omega) (by simp at hb;rw[hz3];omega)
   obtain⟨g1,g2⟩:=j9 0 (by simp;exact hm)
   simp only[List.length_nil,Nat.zero_add]at g1 g2
   have:=acL [] (grownCap w ys.length 0 T') rfl (by simp) (by simp) (by simpa using g1) g2
   refine this ?_
   have hr2:=hr
   rw[←hx1,show(Value.slice none 0 0)=ρ s by rw[hs1,q]]at hr2
   have:=cO h hr2
   simpa using this
 ·have hbd:blk (β d)=some b:=by rw[q1];rfl
  by_cases hroom:xs.length+ys.length≤cap
  ·rcases Nat.eq_zero_or_pos ys.length with hm|hm
   ·have hy:ys=[]:=List.eq_nil_of_length_eq_zero hm
    subst hy
    refine fin (.slice (some ⟨b,o0,none⟩) xs.length cap) w b I (cO h ?_) rfl ⟨λ_ _ _=>rfl,Nat.le_refl _,rfl,rfl,rfl,Nat.le_refl _⟩ q9 (other b hbd) (aK.refl I) (λ_ _ _=>rfl) (λo v hv=>hw.good b o v hv) (hw.fT q4) (.inl rfl) ?_
    ·rw[hs1,hx1,q1]
     cases a<;>simp[Builtin.append_,run_underlying hT.und,Go.sizeOf,typeInfo,hi1,Builtin.lenOf,Builtin.firstCells,loadCells,loadCellsFrom,q2,storeCells]
    ·simp only[aa,bu,List.append_nil]
     exact .inr (.inr ⟨b,o0,cap,arr,rfl,q2,q3,q4,q5,q6,q7,q8,q9⟩)
   ·obtain⟨ad,rfl,hcells⟩:=hn2.resolve_left (by omega)
    have hlt:xs.length<cap:=by omega
    have hsz:=q5 hlt
    have hfit:o0+xs.length*i.size+news.length≤arr.size:=by
     rw[hz2,hnl,Nat.add_assoc,←Nat.add_mul]
     have:=Nat.mul_le_mul_right sz hroom;omega
    have hr:=ta (P:=G.P) w T o.type T' i hT.und hi1 b o0 xs.length cap arr q4 ad ys.length c news (by rw[hz2];exact hnl) hcells hone hroom hfit
    rw[hz2]at hr hfit
    have hal:o0+xs.length*sz≤arr.toList.length:=by simp only[Array.length_toList];omega
    let I':Imm:=I.on λb' o=>if b'=b∧o0+xs.length*sz≤o∧o<o0+xs.length*sz+news.length then news[o-(o0+xs.length*sz)]? else I b' o
    have hfree:=q8 hlt
    have hle:aK I I':=λb' o v hv=>by
     cases o with
     |none=>exact hv
     |some o=>
     show(if b'=b∧_∧_ then _ else I b' o)=some v
     split
     ·rename_i e;obtain⟨e1,e2,_⟩:=e;subst e1;rw[hfree o e2]at hv;cases hv
     ·exact hv
    have jC:∀o,((arr.toList.take (o0+xs.length*sz)++news++arr.toList.drop (o0+xs.length*sz+news.length)).toArray)[o]?=if o<o0+xs.length*sz then arr[o]? else if o<o0+xs.length*sz+news.length then news[o-(o0+xs.length*sz)]? else arr[o]?:=by
     intro o
     have htl:(arr.toList.take (o0+xs.length*sz)).length=o0+xs.length*sz:=by rw[List.length_take,Nat.min_eq_left hal]
     rw[List.getElem?_toArray]
     by_cases c1:o<o0+xs.length*sz
     ·rw[if_pos c1,List.append_assoc,List.getElem?_append_left (by omega),List.getElem?_take,if_pos c1,Array.getElem?_toList]
     ·rw[if_neg c1]
      by_cases c2:o<o0+xs.length*sz+news.length
      ·rw[if_pos c2,List.getElem?_append_left (by rw[List.length_append,htl];omega),List.getElem?_append_right (by omega),htl]
      ·rw[if_neg c2,List.getElem?_append_right (by rw[List.length_append,htl];omega),List.length_append,htl,List.getElem?_drop,Array.getElem?_toList]
       congr 1;omega
    refine fin _ _ b I' (cO h (by rw[hs1,hx1,q1];exact hr)) rfl (Kept.setRow w b _) q9 (other b hbd) hle (λb' hb' o=>by cases o with|none=>rfl|some o=>show(if _ then _ else _)=_;rw[if_neg (λe=>hb' e.1)]) (λo v hv=>?_) (hw.fT q4) (.inl rfl) ?_
    ·simp only[World.cell?,setRow_heap w b arr _ T' _ q4]
     have:((arr.toList.take (o0+xs.length*sz)++news++arr.toList.drop (o0+xs.length*sz+news.length)).toArray)[o]?=some v:=by
      rw[jC]
      change (if b=b∧o0+xs.length*sz≤o∧o<o0+xs.length*sz+news.length then news[o-(o0+xs.length*sz)]? else I b o)=some v at hv
      split at hv
      ·rename_i e
       rw[if_neg (by omega),if_pos e.2.2];exact hv
      ·rename_i e
       have hg:=hw.good b o v hv
       simp only[World.cell?,q4]at hg
       have hg:arr[o]?=some v:=by simpa using hg
       split
       ·exact hg
       ·split
        ·rename_i c1 c2;exact absurd ⟨rfl,by omega,c2⟩ e
        ·exact hg
     simpa using this
    ·simp only[aa,bu]
     refine .inr (.inr ⟨b,o0,cap,_,by rw[List.length_append],by rw[List.length_append];exact hroom,q3,setRow_heap w b arr _ T' _ q4,λ_=>?_,?_,?_,λhh o ho=>?_,q9⟩)
     ·have:(arr.toList.take (o0+xs.length*sz)++news++arr.toList.drop (o0+xs.length*sz+news.length)).length=arr.toList.length:=by
       simp only[List.length_append,List.length_take,List.length_drop]
       rw[Nat.min_eq_left hal]
       simp only[Array.length_toList]at hal ⊢;omega
      simp only[List.size_toArray,this,Array.length_toList];exact hsz
     ·rw[qK (λe he=>q7 e he)]
      refine⟨iB hle _ _ _ q6,?_⟩
      refine jR ys _ news (dK hle _ _ hn1) λj v hv=>?_
      have hj:=(List.getElem?_eq_some_iff.1 hv).1
      show(if b=b∧_∧_ then _ else _)=_
      rw[if_pos ⟨rfl,by omega,by omega⟩,show o0+xs.length*sz+j-(o0+xs.length*sz)=j by omega];exact hv
     ·intro e he
      rcases List.mem_append.1 he with he|he
      ·exact q7 e he
      ·exact hys e he
     ·rw[List.length_append,Nat.add_mul]at ho
      show(if b=b∧_∧_ then _ else _)=_
      rw[if_neg (by rw[hnl];omega)]
      exact hfree o (by omega)
  ·
   have hm:0<ys.length:=by omega
   obtain⟨ad,rfl,hcells⟩:=hn2.resolve_left (by omega)
   obtain⟨olds,o1,o2⟩:=jF hw.good xs o0 q6
   have hol:olds.length=xs.length*sz:=by rw[dx _ _ o1];exact iu xs q7
   have hr:=run_append_grow (P:=G.P) w T o.type T' i z hT.und hi1 hz1 ⟨b,o0,none⟩ xs.length cap olds (by rw[hz2];exact hol) (λj v hv=>by rw[dH];exact o2 j v hv) ad ys.length c news (by rw[hz2];exact hnl) hcells (by omega) (by omega) (growslice_fits (by omega) (by rw[hz3];exact hb))
   obtain⟨g1,g2⟩:=j9 cap (by omega)
   exact acL _ _ o1 hol q7 g1 g2 (cO h (by rw[hs1,hx1,q1];exact hr))
def uH(d:Nat)(xs:List (List AV))(ev:Operand→AV)(x:Operand):AV:=match ev x with
 |.own d'=>bif Nat.beq d' d then .lst false xs else .own d'
 |a=>a
theorem yh{d:Nat}{xs:List (List AV)}{ev:Operand→AV}{x:Operand}(h:ev x=.own d):uH d xs ev x=.lst false xs:=by simp[uH,h]
theorem acM{d:Nat}{xs:List (List AV)}{ev:Operand→AV}{x:Operand}{k:IntKind}{n:Int}(h:ev x=.int k n):uH d xs ev x=.int k n:=by simp[uH,h]
theorem Yields.win{G:Gl}{o:Oper}{ev:Operand→AV}{σ:Sto}{av:AV}{d T sz:Nat}{xs:List (List AV)}(hd:σ.get d=some (.win T sz xs))(h:Yields G o (uH d xs ev) σ [] [] av):Yields G o ev σ [] [d] av:=
 λσ' cx I β w ρ hR hw hm hop=>h σ' cx I β w ρ (λx hx=>by cases hx) hw hm λx hx=>by
  have h0:=hop x hx
  unfold uH
  split
  ·rename_i d' he
   rw[he]at h0
   cases hb:Nat.beq d' d with
   |false=>exact h0
   |true=>
    have:=Nat.eq_of_beq_eq_true hb
    subst this
    exact hw.win (by rw[hR _ (by simp)];exact hd) h0
  ·exact h0
end win
def snap(w:World):Imm:=λb o=>match o with
 |some o=>w.cell? ⟨b,o,none⟩
 |none=>match w.heap[b]? with
  |some (.map es clock)=>some (jx es clock)
  |_=>none
variable {w:World}
theorem nY(b:Nat)(o:Nat)(v:Value)(h:snap w b o=some v):w.cell? ⟨b,o,none⟩=some v:=h
theorem mT(b:Nat)(v:Value)(h:snap w b none=some v):∃es clock,w.heap[b]?=some (.map es clock)∧v=jx es clock:=by
 simp only[snap]at h
 split at h
 ·rename_i es clock hb;cases h;exact⟨es,clock,hb,rfl⟩
 ·cases h
variable {I:Imm}{cx:Cx}{β:Nat→Value}
theorem aN.acN{G:Gl}{σ:Sto}(hw:aN G cx I β σ w):aK I (snap w):=λb o v hv=>by
 cases o with
 |some o=>exact hw.good b o v hv
 |none=>
  obtain⟨es,clock,h1,rfl⟩:=hw.dn b v hv
  simp only[snap,h1]
theorem aN.aiX{G:Gl}{σ:Sto}(hw:aN G cx I β σ w){b:Nat}{o:Option Nat}{v:Value}(hv:I b o=some v):b<w.heap.size:=by
 rcases Nat.lt_or_ge b w.heap.size with h|h
 ·exact h
 ·rw[hw.bV h o]at hv;cases hv
end Go.Proofs.YtmnbolcmepihlaaGreat
