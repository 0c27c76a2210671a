/- Several texts in one. No condition but those that stand in each. -/
import Derived.Test.YtmnbolcmepihlaaGreatAA
import Derived.Sort.Grow
import Derived.Laws.StructEq
namespace Go.Proofs.YtmnbolcmepihlaaGreat
set_option linter.all false
open Go
def Env.find:Env→Nat→Option AV
 |[],_=>none
 |(k,v)::r,n=>bif Nat.beq k n then some v else Env.find r n
theorem Env.gm:∀{env:Env} {t:Nat} {a:AV},env.find t=some a→env.get t=a
 |[],_,_,h=>by simp[Env.find]at h
 |(k,v)::r,t,a,h=>by
  simp only[Env.find]at h;simp only[Env.get];cases hk:Nat.beq k t<;>rw[hk]at h
  ·exact Env.gm (env:=r) h
  ·simpa using h
def Env.evo(env:Env):Operand→Option AV
 |.tmp t=>env.find t
 |.const (.int k n)=>some (.int k n)
 |.const (.bool b)=>some (.bool b)
 |.const (.string s)=>some (.str s)
 |.const (.slice none 0 0)=>some .bI
 |.const v=>some (jh v)
 |.func f=>some (.fn f [])
 |.global _=>none
theorem Env.aG{env:Env}{x:Operand}{a:AV}(h:env.evo x=some a):env.ev x=a:=by
 unfold Env.evo at h;split at h<;>first|exact Env.gm h|(simp only[Env.ev,jh];simpa using h)|(simp only[Env.ev];simpa using h)|cases h
def Env.nk(env:Env):List Operand→Option (List AV)
 |[]=>some []
 |x::r=>match env.evo x with
  |none=>none
  |some a=>match Env.nk env r with
   |none=>none
   |some l=>some (a::l)
theorem Env.oQ{env:Env}:∀{xs:List Operand} {l:List AV},env.nk xs=some l→xs.map env.ev=l
 |[],l,h=>by simpa [Env.nk]using h
 |x::r,l,h=>by
  simp only[Env.nk]at h;cases h1:env.evo x with
  |none=>rw[h1]at h;cases h
  |some a=>
   rw[h1]at h;simp only at h;cases h2:Env.nk env r with
   |none=>rw[h2]at h;cases h
   |some l'=>
    rw[h2]at h;simp only[Option.some.injEq]at h;subst h;simp[Env.aG h1,Env.oQ h2]
def Env.ru(env:Env):List (Nat×Operand)→Option (List (Nat×AV))
 |[]=>some []
 |(i,x)::r=>match env.evo x with
  |none=>none
  |some a=>match Env.ru env r with
   |none=>none
   |some l=>some ((i,a)::l)
theorem Env.si{env:Env}:∀{xs:List (Nat×Operand)} {l:List (Nat×AV)},env.ru xs=some l→xs.map (λp=>(p.1,env.ev p.2))=l
 |[],l,h=>by simpa [Env.ru]using h
 |(i,x)::r,l,h=>by
  simp only[Env.ru]at h;cases h1:env.evo x with
  |none=>rw[h1]at h;cases h
  |some a=>
   rw[h1]at h;simp only at h;cases h2:Env.ru env r with
   |none=>rw[h2]at h;cases h
   |some l'=>
    rw[h2]at h;simp only[Option.some.injEq]at h;subst h;simp[Env.aG h1,Env.si h2]
def el{α:Type}[Inhabited α](l:List α)(i:Int):α:=l.getD i.toNat default
def spine{α:Type}:List α→Option (List α)
 |[]=>some []
 |x::r=>match spine r with
  |none=>none
  |some l=>some (x::l)
theorem kR{α:Type}:∀{xs l:List α},spine xs=some l→xs=l
 |[],l,h=>by simpa [spine]using h
 |x::r,l,h=>by
  simp only[spine]at h;cases h2:spine r with
  |none=>rw[h2]at h;cases h
  |some l'=>
   rw[h2]at h;simp only[Option.some.injEq]at h;rw[←h,kR h2]
def mD:AV→Option (List AV)
 |.agg cs=>spine cs
 |a=>some [a]
theorem oR{a:AV}{cs:List AV}(h:mD a=some cs):fB a=cs:=by
 unfold mD at h;split at h
 ·exact kR h
 ·rename_i hne;simp only[Option.some.injEq]at h;rw[←h];cases a<;>first|rfl|exact absurd rfl (hne _)
def ldO(ag:Bool)(n:Nat)(cs:List AV):Option AV:=
 match ag with
 |true=>match spine (cs.take n)with
  |none=>none
  |some l=>some (.agg l)
 |false=>match cs with
  |[]=>none
  |x::_=>some x
theorem wH{ag:Bool}{n:Nat}{cs:List AV}{a:AV}(h:ldO ag n cs=some a):lD ag n cs=a:=by
 cases ag with
 |true=>
  simp only[ldO]at h;cases h2:spine (cs.take n)with
  |none=>rw[h2]at h;cases h
  |some l=>
   rw[h2]at h;simp only[Option.some.injEq]at h;rw[←h,←kR h2];rfl
 |false=>
  cases cs with
  |nil=>simp[ldO]at h
  |cons x r=>simp only[ldO,Option.some.injEq]at h;rw[←h];rfl
def uQ(pl:List (Nat×Nat))(cells:List AV):List (Nat×AV)→Option (List AV)
 |[]=>spine cells
 |(i,a)::rest=>match pl[i]? with
  |none=>none
  |some (off,size)=>match mD a with
   |none=>none
   |some ca=>bif Nat.beq ca.length size&&Nat.ble (off+ca.length) cells.length&&a.flat then
     (match spine (cG cells off ca)with
     |none=>none
     |some l=>uQ pl l rest)else none
theorem aci(pl:List (Nat×Nat)):∀{parts:List (Nat×AV)} {cells out:List AV},uQ pl cells parts=some out→s6 pl cells parts=some out
 |[],cells,out,h=>by simp only[uQ]at h;simp only[s6];rw[kR h]
 |(i,a)::rest,cells,out,h=>by
  simp only[uQ]at h;simp only[s6];cases hp:pl[i]? with
  |none=>rw[hp]at h;cases h
  |some os=>
   obtain⟨off,size⟩:=os;rw[hp]at h;simp only at h ⊢;cases hc:mD a with
   |none=>rw[hc]at h;cases h
   |some ca=>
    rw[hc]at h;simp only at h;rw[oR hc];cases hb:(Nat.beq ca.length size&&Nat.ble (off+ca.length) cells.length&&a.flat)with
    |false=>rw[hb]at h;simp at h
    |true=>
     rw[hb]at h;simp only[cond_true]at h ⊢;cases hs:spine (cG cells off ca)with
     |none=>rw[hs]at h;cases h
     |some l=>
      rw[hs]at h;simp only at h;rw[kR hs];exact aci pl h
def mc(sz:Nat):Nat→List (Nat×AV)→Option (List (List AV))
 |_,[]=>some []
 |k,(i,a)::r=>match mD a with
  |none=>none
  |some ca=>bif Nat.beq i k&&Nat.beq ca.length sz&&a.flat then
    (match mc sz (k+1) r with
    |none=>none
    |some l=>some (ca::l))else none
theorem n9(sz:Nat):∀{parts:List (Nat×AV)} {k:Nat} {out:List (List AV)},mc sz k parts=some out→mS sz k parts=some out
 |[],k,out,h=>by simpa [mc,mS]using h
 |(i,a)::r,k,out,h=>by
  simp only[mc]at h;simp only[mS];cases hc:mD a with
  |none=>rw[hc]at h;cases h
  |some ca=>
   rw[hc]at h;simp only at h;rw[oR hc];cases hb:(Nat.beq i k&&Nat.beq ca.length sz&&a.flat)with
   |false=>rw[hb]at h;simp at h
   |true=>
    rw[hb]at h;simp only[cond_true]at h ⊢;cases hf:mc sz (k+1) r with
    |none=>rw[hf]at h;cases h
    |some l=>
     rw[hf]at h;simp only[Option.some.injEq]at h;rw[n9 sz hf,←h];rfl
def pG(σ:Sto):Sto→Prop
 |[]=>True
 |(d,o)::r=>σ.get d=some o∧pG σ r
theorem pG.mem{σ:Sto}:∀{σ2:Sto},pG σ σ2→∀p∈σ2,σ.get p.1=some p.2
 |[],_,p,h=>by simp at h
 |(d,o)::r,h,p,hp=>by
  rcases List.mem_cons.1 hp with rfl|hp
  ·exact h.1
  ·exact pG.mem h.2 p hp
def oS(σ:Sto)(env:Env):Env→Prop
 |[]=>True
 |(k,v)::r=>eT σ (env.get k) v∧oS σ env r
theorem oS.mem{σ:Sto}{env:Env}:∀{bT:Env},oS σ env bT→∀p∈bT,eT σ (env.get p.1) p.2
 |[],_,p,h=>by simp at h
 |(d,o)::r,h,p,hp=>by
  rcases List.mem_cons.1 hp with rfl|hp
  ·exact h.1
  ·exact oS.mem h.2 p hp
def tZ(env:Env):Env→Prop
 |[]=>True
 |(k,v)::r=>env.find k=some v∧tZ env r
theorem tZ.zF{σ:Sto}{env:Env}:∀{bT:Env},tZ env bT→oS σ env bT
 |[],_=>trivial
 |(k,v)::r,h=>⟨by rw[Env.gm h.1];exact .refl _,tZ.zF h.2⟩
theorem eT.of_eq{σ:Sto}{a b:AV}(h:a=b):eT σ a b:=by subst h;exact .refl _
theorem aU.back{G:Gl}{env bT:Env}{σ σ2:Sto}(r s:Nat→Nat)(he:oS σ env (bT.ren s))(hs:pG σ (σ2.ren s))(hok:uL r s G.ids (bT.ren s) (σ2.ren s)=true)(h1:(bT.ren s).ren r=bT)(h2:(σ2.ren s).ren r=σ2):aU G env σ bT σ2:=by
 have:=(aU.drop (G:=G) he.mem hs.mem).trans (aU.ren r s hok)
 rwa [h1,h2]at this
section rules
variable {G:Gl}{env:Env}{σ:Sto}{Q:Exit→Env→Sto→Prop}{x y c:Code}
theorem aU.of{bT:Env}{σ2:Sto}(he:oS σ env bT)(hs:pG σ σ2):aU G env σ bT σ2:=aU.drop he.mem hs.mem
theorem A.join{α:Type}(kenv:Env)(kst:Sto)(chg:α→Env)(chs:α→Sto)(φ:α→Prop)(hk:tZ env kenv)(hks:pG σ kst)
  (h:af G x (l8 (λenv' σ'=>∃g,φ g∧aU G env' σ' (chg g++kenv) (chs g++kst)) Q) env σ) (k:∀g,φ g→af G y Q (chg g++kenv) (chs g++kst)):af G (.seq x y) Q env σ:=by
 refine A.seq (h.mono ?_);intro e env' σ' hq;cases e with
 |normal=>
  obtain⟨g,hg,hw⟩:=hq;exact A.weak hw (k g hg)
 |_=>exact hq
end rules
section steps
variable {G:Gl}{ops:Array Oper}{s:Sch}{log:List (Nat×List Nat)}{i:Nat}{l:List Nat}{env:Env}{σ:Sto}{K:Env→Sto→Prop}{o:Oper}{av:AV}
end steps
section ops
variable {G:Gl}{o:Oper}{env:Env}{σ:Sto}{a:AV}
theorem Z.move{x:Operand}(h:o.op=.move x)(hx:env.evo x=some a):Yields G o env.ev σ [] [] a:=by rw[←Env.aG hx];exact Y.move h
theorem Z.assign{x:Operand}(h:o.op=.assign x)(hx:env.evo x=some a):Yields G o env.ev σ [] [] a:=by rw[←Env.aG hx];exact Y.assign h
theorem Z.aeq{c x y:Operand}{p:Bool}(h:o.op=.pick c x y)(hc:env.ev c=.bool p)(hp:p=true)(hx:env.evo x=some a):Yields G o env.ev σ [] [] a:=by rw[←Env.aG hx];exact Y.aeq h hc hp
theorem Z.aer{c x y:Operand}{p:Bool}(h:o.op=.pick c x y)(hc:env.ev c=.bool p)(hp:p=false)(hx:env.evo y=some a):Yields G o env.ev σ [] [] a:=by rw[←Env.aG hx];exact Y.aer h hc hp
theorem Z.alloc{T d:Nat}{zs:List Value}{cs:List AV}(h:o.op=.alloc T)(hz:∀w,∃z,(zeroValue T).run G.P w=.ok z w∧z.cells=zs.toArray)(hc:lq zs=cs)(hi:G.ids.contains d=false):
  Yields G o env.ev ((d,.cells T cs)::σ) [d] [d] (.ptr d 0):=by subst hc;exact Y.alloc h hz hi
theorem Z.box{T d:Nat}{x:Operand}{cs:List AV}(h:o.op=.box T x)(hx:env.evo x=some a)(hf:a.flat=true)(hc:mD a=some cs)(hr:a.refs (Nat.beq d)=false)(hi:G.ids.contains d=false):
  Yields G o env.ev ((d,.cells T cs)::σ) [d] [d] (.ptr d 0):=Y.box h (Env.aG hx) hf (oR hc) hr hi
theorem Z.zz{T T':TypeId}{x:Operand}{n d p:Nat}{ag:Bool}{cs:List AV}(h:o.op=.load T x)(hx:env.ev x=.ptr d p)(hT:TyS G.P T n ag)(hd:σ.get d=some (.cells T' cs))(h0:(ag||Nat.blt 0 n)=true)(hn:Nat.ble (p+n) cs.length=true)(ha:ldO ag n (cs.drop p)=some a):
  Yields G o env.ev σ [] [d] a:=by rw[←wH ha];exact Y.zz h hx hd hT h0 hn
theorem Z.aes{T:TypeId}{x:Operand}{n:Nat}{ag:Bool}{cs:List AV}(h:o.op=.load T x)(hx:env.ev x=.cV cs)(hT:TyS G.P T n ag)(h0:(ag||Nat.blt 0 n)=true)(hn:Nat.ble n cs.length=true)(ha:ldO ag n cs=some a):
  Yields G o env.ev σ [] [] a:=by rw[←wH ha];exact Y.aes h hx hT h0 hn
theorem Z.build{T:TypeId}{parts:Array (Nat×Operand)}{zs:List Value}{pl:List (Nat×Nat)}{ps:List (Nat×AV)}{cs:List AV}(h:o.op=.build T parts)(hT:iz G.P T zs pl)(hp:env.ru parts.toList=some ps)
  (hf:uQ pl (lq zs) ps=some cs):Yields G o env.ev σ [] [] (.agg cs):=Y.build h hT (by rw[Env.si hp];exact aci pl hf)
theorem Z.buildSlice{T E sz len:Nat}{parts:Array (Nat×Operand)}{zs:List Value}{ps:List (Nat×AV)}{xs:List (List AV)}(h:o.op=.buildSlice T len parts)(hT:iP G.P T E sz zs)(hl:parts.size=len)(hs:(Nat.ble (len*sz) 65536&&Nat.ble len 65536)=true)
  (hp:env.ru parts.toList=some ps) (hf:mc sz 0 ps=some xs) (hc:eO xs.flatten=true):Yields G o env.ev σ [] [] (.lst true xs):=
 Y.buildSlice h hT hl (by simpa using hs) (by rw[Env.si hp];exact n9 sz hf) hc
theorem Z.makeFunc{f:FuncId}{cap:Array Operand}{l:List AV}(h:o.op=.makeFunc (.func f) #[] cap)(hl:env.nk cap.toList=some l):Yields G o env.ev σ [] [] (.fn f l):=by
 rw[←Env.oQ hl];exact Y.makeFunc h
theorem Z.field{T f off n:Nat}{ag:Bool}{x:Operand}{cs:List AV}(h:o.op=.field T x f)(hx:env.ev x=.agg cs)(hT:cN G.P T f off n ag)(hn:Nat.ble (off+n) cs.length=true)(ha:ldO ag n (cs.drop off)=some a):Yields G o env.ev σ [] [] a:=by
 rw[←wH ha];exact Y.field h hx hT hn
theorem Z.call{fo:Operand}{args:Array Operand}{k:Array TypeId}{f:FuncId}{cap avs ps:List AV}{σs σc:Sto}{r:AV}(h:o.op=.call ⟨.value fo,args,k⟩)(hf:env.ev fo=.fn f cap)
  (kf:∀(args:Array Value) (w:World),(callFunc f args).run G.P w=.ok (.enter f args) w) (hro:RO G.P f σc avs r) (hp:env.nk args.toList=some ps) (ha:fM σs (ps++cap) avs) (hs:pG σ σs) (hc:pG σs σc)
  (hr:r.closed=true) (hcc:σc.clean (λd=>!(σc.ids++[]).contains d)=true):Yields G o env.ev σ [] σs.ids r:=
 Y.call h hf kf hs.mem (by rw[Env.oQ hp];exact ha) hc.mem hro hr hcc
theorem Z.ajf{fo:Operand}{args:Array Operand}{k:Array TypeId}{f:FuncId}{cap avs ps:List AV}{σc:Sto}{Post:AV→Sto→Prop}(news:List Nat)(h:o.op=.call ⟨.value fo,args,k⟩)(hf:env.ev fo=.fn f cap)
  (kf:∀(args:Array Value) (w:World),(callFunc f args).run G.P w=.ok (.enter f args) w) (hro:b9 G.P f σc avs Post) (hp:env.nk args.toList=some ps) (ha:fM σ (ps++cap) avs) (hs:pG σ σc)
  (hn:news.all (λd=>!G.ids.contains d&&(σ.get d).isNone)=true) (hcl:(σ.minus σc.ids).clean news.contains=true)
  (hok:∀r σ2,Post r σ2→r.refs (λd=>!(σc.ids++news).contains d)=false∧σ2.clean (λd=>!(σc.ids++news).contains d)=true) :
  dU G o env.ev σ (σc.ids++news) news (λr σ'=>∃σ2,Post r σ2∧σ'=σ2++σ.minus σc.ids):=
 D.call news h hf kf hs.mem (by rw[Env.oQ hp];exact ha) hro hn hcl hok
theorem Z.wG{T T' d p n:Nat}{ag:Bool}{x y:Operand}{cs ca cs':List AV}(h:o.op=.store T x y)(hx:env.ev x=.ptr d p)(hT:TyS G.P T n ag)(hy:env.evo y=some a)(hd:σ.get d=some (.cells T' cs))
  (hf:a.flat=true) (hca:mD a=some ca) (hn:Nat.beq ca.length n=true) (hl:Nat.ble (p+n) cs.length=true) (hs:spine (cG cs p ca)=some cs') :
  dU G o env.ev σ [d] [] (λr σ'=>r=.undef∧σ'=σ.set d (.cells T' cs')):=by
 rw[←kR hs,←oR hca];exact D.wG h hx (Env.aG hy) hd hT.size hf (by rw[oR hca];simpa using hn) (by simpa using hl)
theorem aau{n:Int}(h1 : -9223372036854775808≤n)(h2:n≤9223372036854775807):inK .i64 n:=by
 unfold inK;rw[IntKind.wrap_i64];omega
theorem RV.tmp{t:Nat}{a:AV}(h:env.find t=some a):oy G env σ (.tmp t) a:=by rw[←Env.gm h];exact .tmp t
theorem RV.cell{a T d T' n:Nat}{ag:Bool}{cs:List AV}{r:AV}(hT:TyS G.P T n ag)(ha:env.get a=.ptr d 0)(hd:σ.get d=some (.cells T' cs))(hn:Nat.beq cs.length n=true)(h0:(ag||Nat.blt 0 n)=true)(hr:ldO ag n cs=some r):oy G env σ (.cell a T) r:=by
 rw[←wH hr];exact .cell a T d T' n ag cs ha hd hT (by simpa using hn) (λe=>by subst e;simpa using h0)
end ops
end Go.Proofs.YtmnbolcmepihlaaGreat
namespace Go.Proofs.YtmnbolcmepihlaaGreat
set_option linter.all false
open Go
theorem fM.refl(σ:Sto):∀l:List AV,fM σ l l
 |[]=>.nil
 |x::r=>.cons (.refl x) (fM.refl σ r)
theorem Sto.me:∀σ:Sto,σ.freeze []=σ
 |[]=>rfl
 |(d,o)::r=>by simp[Sto.freeze,Sto.me r]
section
variable {G:Gl}{env:Env}{σ σ0:Sto}{o:Oper}{ev:Operand→AV}
theorem Z.convert{T T':TypeId}{x:Operand}{k k':IntKind}{n:Int}(h:o.op=.convert T T' x)(hx:ev x=.int k n)(hT:∃d,G.P.underlying T=some d)(hT':G.P.underlying T'=some (.int k'))(hn:inK k' n):Yields G o ev σ [] [] (.int k' n):=by
 have:=Y.convert (G:=G) (σ:=σ) (ev:=ev) h hx hT hT'
 rwa [show k'.wrap n=n from hn]at this
theorem Z.shr{T T':TypeId}{x y:Operand}{k k':IntKind}{m n:Int}(h:o.op=.binOp .shr T x y T')(hx:ev x=.int k m)(hy:ev y=.int k' n)(hn:0≤n∧n<k.bits):Yields G o ev σ [] [] (.int k (m / 2 ^ n.toNat)):=by
 have:=Y.shift (G:=G) (σ:=σ) (ev:=ev) (.inr rfl) h hx hy hn.1;simp only at this;rw[Nat.min_eq_left (by omega),Int.fdiv_eq_ediv_of_nonneg _ (Int.le_of_lt (Int.pow_pos (by decide)))]at this;exact this
theorem akg{n:Int}(h1:0≤n)(h2:n≤18446744073709551615):inK .u64 n:=by
 unfold inK;simp only[IntKind.wrap,IntKind.bits,IntKind.signed];simp;omega
end
end Go.Proofs.YtmnbolcmepihlaaGreat
namespace Go.Proofs.YtmnbolcmepihlaaGreat
set_option linter.all false
open Go
def aY{α:Type}(l:List (Int×α))(n:Int):Option α:=(l.find? λp=>decide (p.1=n)).map (·.2)
def bN{α:Type}:List (Int×α)→Int→α→List (Int×α)
 |[],n,v=>[(n,v)]
 |p::r,n,v=>if p.1=n then(n,v)::r else p::bN r n v
def bU{α:Type}(k:IntKind)(enc:α→AV)(l:List (Int×α)):List (AV×AV):=l.map λp=>(.int k p.1,enc p.2)
theorem nq{I:Imm}{α:Type}{k:IntKind}{enc:α→AV}(n:Int):∀(l:List (Int×α)) (es:List MapEntry) (i:Nat) (a:α),cW I (bU k enc l) es→aY l n=some a→
  ∃j v,Instr.findNow (.int k) (.int k n) es i=some (some (i+j,v))∧aB I (enc a) v∧∃e,es[j]?=some e∧e.key=.int k n∧
   ∀(b:α) (u:Value) (kk:MapEntry→MapEntry),aB I (enc b) u→(∀e,(kk e).key=.int k n∧(kk e).val=u)→cW I (bU k enc (bN l n b)) (es.modify j kk)
 |[],es,i,a,h,hg=>by simp[aY]at hg
 |(m,b)::r,es,i,a,h,hg=>by
  simp only[bU,List.map_cons,cW]at h;obtain⟨e,us,rfl,h1,h2,h3⟩:=h;simp only[aB]at h1;by_cases hm:m=n
  ·subst hm;simp only[aY,List.find?,decide_true,Option.map_some,Option.some.injEq]at hg;subst hg;refine⟨0,e.val,?_,h2,e,rfl,h1,?_⟩
   ·simp[Instr.findNow,Instr.sameNow,h1]
   ·intro c u kk hu hk;simp only[bN,if_pos,bU,List.map_cons,cW,List.modify_zero_cons];exact⟨kk e,us,rfl,by simp only[aB];exact(hk e).1,by rw[(hk e).2];exact hu,h3⟩
  ·have hg':aY r n=some a:=by simpa [aY,List.find?,hm]using hg
   obtain⟨j,v,q1,q2,e',q3,q4,q5⟩:=nq n r us (i+1) a h3 hg';refine⟨j+1,v,?_,q2,e',by simpa using q3,q4,?_⟩
   ·simp only[Instr.findNow,Instr.sameNow,h1,if_pos];have:(n==m)=false:=by simpa using λe=>hm e.symm
    rw[this];simp only;rw[q1];simp[Nat.add_assoc,Nat.add_comm 1 j]
   ·intro c u kk hu hk;simp only[bN,if_neg hm,bU,List.map_cons,cW,List.modify_succ_cons];exact⟨e,_,rfl,by simp only[aB];exact h1,h2,q5 c u kk hu hk⟩
theorem nt{I:Imm}{α:Type}{k:IntKind}{enc:α→AV}(n:Int):∀(l:List (Int×α)) (es:List MapEntry) (i:Nat),cW I (bU k enc l) es→aY l n=none→
  Instr.findNow (.int k) (.int k n) es i=some none∧∀(b:α) (e:MapEntry),aB I (enc b) e.val→e.key=.int k n→cW I (bU k enc (bN l n b)) (es++[e])
 |[],es,i,h,hg=>by
  simp only[bU,List.map_nil,cW]at h;subst h;refine⟨rfl,λb e hb hk=>?_⟩;simp only[bN,bU,List.map_cons,List.map_nil,cW,List.nil_append];exact⟨e,[],rfl,by simp only[aB];exact hk,hb,rfl⟩
 |(m,c)::r,es,i,h,hg=>by
  simp only[bU,List.map_cons,cW]at h;obtain⟨e,us,rfl,h1,h2,h3⟩:=h;simp only[aB]at h1;have hm:m≠n:=λhm=>by subst hm;simp[aY,List.find?]at hg
  have hg':aY r n=none:=by simpa [aY,List.find?,hm]using hg
  obtain⟨q1,q2⟩:=nt n r us (i+1) h3 hg';refine⟨?_,λb e' hb hk=>?_⟩
  ·simp only[Instr.findNow,Instr.sameNow,h1,if_pos];have:(n==m)=false:=by simpa using λe=>hm e.symm
   rw[this];exact q1
  ·simp only[bN,if_neg hm,bU,List.map_cons,cW,List.cons_append];exact⟨e,_,rfl,by simp only[aB];exact h1,h2,q2 b e' hb hk⟩
theorem yd{I:Imm}:∀(l:List (AV×AV)) (es:List MapEntry),cW I l es→es.length=l.length
 |[],es,h=>by simp only[cW]at h;subst h;rfl
 |(k,v)::r,es,h=>by
  simp only[cW]at h;obtain⟨e,us,rfl,_,_,h3⟩:=h;simp[yd r us h3]
structure jD(P:Program)(T K E:TypeId)(k:IntKind):Prop where
 und:P.underlying T=some (.map K E)
 key:P.underlying K=some (.int k)
section
variable {G:Gl}{σ:Sto}{o:Oper}{ev:Operand→AV}
theorem Y.makeMap{T d:Nat}{K E:TypeId}(h:o.op=.makeMap T none)(hi:G.ids.contains d=false):Yields G o ev ((d,.map K E [])::σ) [d] [d] (.bX d):=by
 intro σ' cx I β w ρ hR hw hm hop;have hrun:(execOp ρ o).run G.P w=.ok (.value (.map (some w.heap.size))) (w.alloc (.map #[] 0)):=by
  simp[execOp,h,Instr.makeMap]
 rw[hrun];have hβ:=hm d (by simp);refine⟨I,en β d (.map (some w.heap.size)),by simp only[Rep];exact⟨by rw[bO],rfl⟩,?_,aQ.refl I,λx hx=>cc β _ (λe=>hx (by simp[e]))⟩;refine hw.real (by simpa using hi) hβ rfl λob hob=>?_;rw[hR d (by simp),Sto.aK,if_pos rfl]at hob;injection hob with hob
 subst hob;simp only[aj,bO];exact .inr ⟨w.heap.size,#[],0,rfl,heap_alloc_new w _,rfl,λo=>hw.ct (Nat.le_refl _) o,.inl hw.size,by simp[gv]⟩
theorem rM{G:Gl}{cx:Cx}{I:Imm}{β:Nat→Value}{σ:Sto}{w:World}(hw:aX G cx I β σ w){d:Nat}{K E:TypeId}{aL:List (AV×AV)}(hd:σ.get d=some (.map K E aL)){v:Value}(hv:Rep I β (.bX d) v):
  ∃r es clock,v=.map (some r)∧β d=.map (some r)∧w.heap[r]?=some (.map es clock)∧cW I aL es.toList∧(∀o,I r o=none)∧Place cx r∧gv es clock:=by
 simp only[Rep]at hv;obtain⟨rfl,hv⟩:=hv;have:=hw.bB d _ hd;simp only[aj]at this;rcases this with q|⟨r,es,clock,q1,q2,q3,q4,q5⟩
 ·rw[q]at hv;simp[jS]at hv
 ·exact⟨r,es,clock,q1,q1,q2,q3,q4,q5⟩
theorem fJ{P:Program}{w:World}{r:Nat}{es:Array MapEntry}{c:Nat}(h:w.heap[r]?=some (.map es c)):(getObj r).run P w=.ok (.map es c) w:=by simp[getObj,Sem.run,h]
theorem mE{P:Program}{K:TypeId}{k:IntKind}(hK:P.underlying K=some (.int k))(e:Bool)(n:Int)(w:World):(Instr.checkKey e 10000 K (.int k n)).run P w=.ok () w:=by
 have e1:∀w,(underlying K).run P w=.ok (.int k) w:=λw=>by simp[underlying,program,Sem.run,hK]
 rw[Instr.checkKey];simp[e1]
def ua(I:Imm)(w:World)(v:Value)(aL:List (AV×AV)):Prop:=∃r es clock,v=.map (some r)∧w.heap[r]?=some (.map es clock)∧cW I aL es.toList
theorem uR{G:Gl}{cx:Cx}{I:Imm}{β:Nat→Value}{σ:Sto}{w:World}(hw:aX G cx I β σ w){d:Nat}{K E:TypeId}{aL:List (AV×AV)}(hd:σ.get d=some (.map K E aL)){v:Value}(hv:Rep I β (.bX d) v):ua I w v aL:=by
 obtain⟨r,es,clock,q0,_,q2,q3,_⟩:=rM hw hd hv;exact⟨r,es,clock,q0,q2,q3⟩
theorem ack{G:Gl}{cx:Cx}{I:Imm}{β:Nat→Value}{σ:Sto}{w:World}(hw:aX G cx I β σ w){d:Nat}{es:Array MapEntry}{clock:Nat}{K E:TypeId}{aL:List (AV×AV)}(hd:σ.get d=some (.dI es clock K E aL)){v:Value}(hv:Rep I β (.bX d) v):ua I w v aL:=by
 simp only[Rep]at hv;obtain⟨rfl,hv⟩:=hv;have:=hw.bB d _ hd;simp only[aj]at this;rcases this with q|⟨r,q1,q2,q3,_⟩
 ·rw[q]at hv;simp[jS]at hv
 ·exact⟨r,es,clock,q1,q2,q3⟩
theorem acm{G:Gl}{cx:Cx}{I:Imm}{β:Nat→Value}{σ:Sto}{w:World}(hw:aX G cx I β σ w){aL:List (AV×AV)}{v:Value}(hv:Rep I β (.mpf aL) v):ua I w v aL:=by
 simp only[Rep,aB]at hv;obtain⟨r,es,clock,rfl,h2,h3,_⟩:=hv;obtain⟨es',clock',h4,h5⟩:=hw.dO r _ h2;obtain⟨rfl,rfl⟩:=sZ h5;exact⟨r,es,clock,rfl,h4,h3⟩
theorem uS{α:Type}{I:Imm}{β:Nat→Value}{w:World}{ρ:Operand→Value}{T K E:Nat}{k:IntKind}{x y:Operand}{ok:Bool}{n:Int}(l:List (Int×α))(enc:α→AV)(z:α)(h:o.op=.lookup T x y ok)(h1:ua I w (ρ x) (bU k enc l))(h2:ρ y=.int k n)
  (hT:jD G.P T K E k) (hz:∀w,∃v,(zeroValue E).run G.P w=.ok v w∧∀I,aB I (enc z) v) :
  ∃v,(execOp ρ o).run G.P w=.ok (.value v) w∧Rep I β (bif ok then .tup [enc ((aY l n).getD z),.bool (aY l n).isSome]else enc ((aY l n).getD z)) v:=by
 obtain⟨r,es,clock,q0,q2,q3⟩:=h1;have e1:∀w,(underlying T).run G.P w=.ok (.map K E) w:=λw=>by simp[underlying,program,Sem.run,hT.und]
 have e2:∀w,(underlying K).run G.P w=.ok (.int k) w:=λw=>by simp[underlying,program,Sem.run,hT.key]
 have e3:=fJ (P:=G.P) q2;have e4:=mE (P:=G.P) hT.key (es.isEmpty) n w;cases hg:aY l n with
 |none=>
  obtain⟨p1,_⟩:=nt n l es.toList 0 q3 hg;obtain⟨v,z1,z2⟩:=hz w;have e5:(Instr.findKey K (.int k n) es.toList).run G.P w=.ok none w:=by simp[Instr.findKey,e2,p1]
  cases ok with
  |true=>
   refine⟨.tuple #[v,.bool false],by simp[execOp,h,Instr.lookup,q0,h2,e1,e3,e4,e5,z1],?_⟩;simp only[cond_true,Rep,aW];exact⟨_,rfl,v,[.bool false],rfl,aB.rep β _ _ (z2 I),.bool false,[],rfl,by simp[aB],rfl⟩
  |false=>
   refine⟨v,by simp[execOp,h,Instr.lookup,q0,h2,e1,e3,e4,e5,z1],?_⟩;simp only[cond_false];exact aB.rep β _ _ (z2 I)
 |some a=>
  obtain⟨j,v,p1,p2,_⟩:=nq n l es.toList 0 a q3 hg;have e5:(Instr.findKey K (.int k n) es.toList).run G.P w=.ok (some (0+j,v)) w:=by simp[Instr.findKey,e2,p1]
  cases ok with
  |true=>
   refine⟨.tuple #[v,.bool true],by simp[execOp,h,Instr.lookup,q0,h2,e1,e3,e4,e5],?_⟩;simp only[cond_true,Rep,aW];exact⟨_,rfl,v,[.bool true],rfl,aB.rep β _ _ p2,.bool true,[],rfl,by simp[aB],rfl⟩
  |false=>
   refine⟨v,by simp[execOp,h,Instr.lookup,q0,h2,e1,e3,e4,e5],?_⟩;simp only[cond_false];exact aB.rep β _ _ p2
theorem Y.lookup{α:Type}{T K E d:Nat}{k:IntKind}{x y:Operand}{ok:Bool}{n:Int}(l:List (Int×α))(enc:α→AV)(z:α)(h:o.op=.lookup T x y ok)(hx:ev x=.bX d)(hy:ev y=.int k n)(hd:σ.get d=some (.map K E (bU k enc l)))
  (hT:jD G.P T K E k) (hz:∀w,∃v,(zeroValue E).run G.P w=.ok v w∧∀I,aB I (enc z) v) :
  Yields G o ev σ [] [d] (bif ok then .tup [enc ((aY l n).getD z),.bool (aY l n).isSome]else enc ((aY l n).getD z)):=
 .pure λσ' cx I β w ρ hR hw hop=>by
  have h1:=hop x (by simp[h,Op.operands]);rw[hx]at h1
  have h2:=hop y (by simp[h,Op.operands]);rw[hy]at h2;have h2:=de h2
  exact uS l enc z h (uR hw (by rw[hR d (by simp)];exact hd) h1) h2 hT hz
theorem Y.akh{α:Type}{T K E:Nat}{k:IntKind}{x y:Operand}{ok:Bool}{n:Int}(l:List (Int×α))(enc:α→AV)(z:α)(h:o.op=.lookup T x y ok)(hx:ev x=.mpf (bU k enc l))(hy:ev y=.int k n)
  (hT:jD G.P T K E k) (hz:∀w,∃v,(zeroValue E).run G.P w=.ok v w∧∀I,aB I (enc z) v) :
  Yields G o ev σ [] [] (bif ok then .tup [enc ((aY l n).getD z),.bool (aY l n).isSome]else enc ((aY l n).getD z)):=
 .pure λσ' cx I β w ρ hR hw hop=>by
  have h1:=hop x (by simp[h,Op.operands]);rw[hx]at h1
  have h2:=hop y (by simp[h,Op.operands]);rw[hy]at h2;have h2:=de h2
  exact uS l enc z h (acm hw h1) h2 hT hz
theorem ahg{α:Type}{I:Imm}{β:Nat→Value}{w:World}{ρ:Operand→Value}{T K E:Nat}{k:IntKind}{x:Operand}{kk}(l:List (Int×α))(enc:α→AV)(h:o.op=.call ⟨.builtin .len,#[x],kk⟩)(hk:kk=#[T])(h1:ua I w (ρ x) (bU k enc l))(hT:G.P.underlying T=some (.map K E)):
  ∃v,(execOp ρ o).run G.P w=.ok (.value v) w∧Rep I β (.int .i64 (l.length:Int)) v:=by
 subst hk;obtain⟨r,es,clock,q0,q2,q3⟩:=h1;have e1:∀w,(underlying T).run G.P w=.ok (.map K E) w:=λw=>by simp[underlying,program,Sem.run,hT]
 have e3:=fJ (P:=G.P) q2;have hl:=yd _ _ q3;simp only[Array.length_toList,bU,List.length_map]at hl;exact⟨.int .i64 l.length,by simp[execOp,h,resolve,invoke,builtin,Builtin.len_,q0,e1,e3,goInt,hl],by simp[Rep,aB]⟩
theorem Y.lenM{α:Type}{T K E d:Nat}{k:IntKind}{x:Operand}{kk}(l:List (Int×α))(enc:α→AV)(h:o.op=.call ⟨.builtin .len,#[x],kk⟩)(hk:kk=#[T])(hx:ev x=.bX d)(hd:σ.get d=some (.map K E (bU k enc l)))(hT:G.P.underlying T=some (.map K E)):
  Yields G o ev σ [] [d] (.int .i64 (l.length:Int)):=
 .pure λσ' cx I β w ρ hR hw hop=>by
  have h1:=hop x (by simp[h,Op.operands,Call.operands]);rw[hx]at h1
  exact ahg l enc h hk (uR hw (by rw[hR d (by simp)];exact hd) h1) hT
theorem gv.push{es:Array MapEntry}{clock:Nat}(h:gv es clock)(k v:Value):gv (es.push ⟨k,v,clock⟩) (clock+1):=by
 obtain⟨h1,h2⟩:=h;refine⟨?_,λx hx=>?_⟩
 ·simp only[Array.toList_push,List.map_append,List.map_cons,List.map_nil];rw[List.nodup_append];refine⟨h1,by simp,λa ha b hb=>?_⟩;simp only[List.mem_singleton]at hb;obtain⟨x,hx,rfl⟩:=List.mem_map.1 ha;have:=h2 x hx;omega
 ·simp only[Array.toList_push,List.mem_append,List.mem_singleton]at hx;rcases hx with hx|rfl
  ·have:=h2 x hx;omega
  ·simp
theorem gv.modify{es:Array MapEntry}{clock:Nat}(h:gv es clock)(j:Nat)(f:MapEntry→MapEntry)(hf:∀e,(f e).born=e.born):gv (es.modify j f) clock:=by
 obtain⟨h1,h2⟩:=h;have e:(es.modify j f).toList.map (·.born)=es.toList.map (·.born):=by
  apply List.ext_getElem?;intro i;simp only[Array.toList_modify,List.getElem?_map,List.getElem?_modify];cases es.toList[i]? with
  |none=>simp
  |some x=>by_cases hi:j=i<;>simp[hi,hf]
 refine⟨by rw[e];exact h1,λx hx=>?_⟩;have:x.born∈(es.modify j f).toList.map (·.born):=List.mem_map.2 ⟨x,hx,rfl⟩;rw[e]at this;obtain⟨y,hy,hxy⟩:=List.mem_map.1 this;rw[←hxy];exact h2 y hy
theorem Kept.setObj(w:World)(r:Nat)(o:Obj):Kept w {w with heap:=w.heap.setIfInBounds r o} r:=
 ⟨λk hk _=>by simp[Array.getElem?_setIfInBounds_ne (Ne.symm hk)],by simp,rfl,rfl,rfl,Nat.le_refl _⟩
theorem D.mapUpdate{α:Type}{T K E d:Nat}{k:IntKind}{x y z:Operand}{n:Int}(l:List (Int×α))(enc:α→AV)(v:α)(h:o.op=.mapUpdate T x y z∨o.op=.insert T x y z)(hx:ev x=.bX d)(hy:ev y=.int k n)(hz:ev z=enc v)(hc:(enc v).closed=true)
  (hd:σ.get d=some (.map K E (bU k enc l))) (hT:jD G.P T K E k) :
  dU G o ev σ [d] [] (λr σ'=>r=.undef∧σ'=σ.set d (.map K E (bU k enc (bN l n v)))):=by
 intro cx I β w ρ hw hop;have fQ:x∈o.op.operands∧y∈o.op.operands∧z∈o.op.operands:=by rcases h with h|h<;>simp[h,Op.operands]
 have h1:=hop x fQ.1;rw[hx]at h1
 have h2:=hop y fQ.2.1;rw[hy]at h2;have h2:=de h2
 have h3:=hop z fQ.2.2;rw[hz]at h3
 have h3:=Rep.closed _ _ hc h3;obtain⟨r,es,clock,q0,q1,q2,q3,q4,q5,q6⟩:=rM hw hd h1;have e1:∀w,(underlying T).run G.P w=.ok (.map K E) w:=λw=>by simp[underlying,program,Sem.run,hT.und]
 have e2:∀w,(underlying K).run G.P w=.ok (.int k) w:=λw=>by simp[underlying,program,Sem.run,hT.key]
 have e3:=fJ (P:=G.P) q2;have e4:=mE (P:=G.P) hT.key false n w
 have dN:∀ob:Obj,(setObj r ob).run G.P w=.ok () {w with heap:=w.heap.setIfInBounds r ob}:=λob=>by
  have:=bF q2;simp[setObj,Sem.run,q2]
 have main:∃es' clock',(execOp ρ o).run G.P w=.ok .skip {w with heap:=w.heap.setIfInBounds r (.map es' clock')}∧cW I (bU k enc (bN l n v)) es'.toList∧gv es' clock':=by
  cases hg:aY l n with
  |none=>
   obtain⟨p1,p2⟩:=nt n l es.toList 0 q3 hg;have e5:(Instr.findKey K (.int k n) es.toList).run G.P w=.ok none w:=by simp[Instr.findKey,e2,p1]
   refine⟨_,_,by rcases h with h|h<;>simp[execOp,h,Instr.mapUpdate,q0,h2,e1,e3,e4,e5,dN]<;>rfl,?_,?_⟩
   rotate_left
   ·exact q6.push _ _
   simpa using p2 v ⟨.int k n,ρ z,clock⟩ h3 rfl
  |some a=>
   obtain⟨j,u,p1,p2,e',p3,p4,p5⟩:=nq n l es.toList 0 a q3 hg;have e5:(Instr.findKey K (.int k n) es.toList).run G.P w=.ok (some (0+j,u)) w:=by simp[Instr.findKey,e2,p1]
   have e6:es[j]?=some e':=by simpa using p3
   have e7:(Instr.keyThatStays (.int k n) (.int k n)).run G.P w=.ok (.int k n) w:=by simp[Instr.keyThatStays,Instr.sameBits]
   refine⟨_,_,by rcases h with h|h<;>simp[execOp,h,Instr.mapUpdate,q0,h2,e1,e3,e4,e5,dN,e6,p4,e7]<;>rfl,?_,?_⟩
   ·simpa using p5 v (ρ z) (λe=>{e with key:=.int k n,val:=ρ z}) h3 (λe=>⟨rfl,rfl⟩)
   ·exact q6.modify _ _ λ_=>rfl
 obtain⟨es',clock',hrun,hE,hB⟩:=main;rw[hrun];refine⟨.undef,_,I,β,⟨rfl,rfl⟩,by simp[Rep,aB],?_,aQ.refl I,λ_ _=>rfl,λx hx=>by rw[Sto.cB,if_neg (by simpa using hx)]⟩;have hbd:blk (β d)=some r:=by rw[q1];rfl
 refine hw.turn (d:=d) (Kept.setObj w r _) q5 (λx hx=>by rw[Sto.cB,if_neg hx]) (λx hx hs e=>hw.bQ x d hs (by rw[hd];rfl) hx r e (cR hbd)) (aQ.refl I) (λ_ _ _=>rfl)
  (λo v hv=>by rw[q4 o]at hv;cases hv) (q4 none) (λ_ _=>rfl) (.inr rfl) (HLe.refl β) (.inl hbd) λob hob=>?_
 rw[Sto.cB,if_pos rfl,hd]at hob;injection hob with hob
 subst hob;simp only[aj];exact .inr ⟨r,es',clock',q1,by have:=bF q2;simp[Array.getElem?_setIfInBounds,this],hE,q4,q5,hB⟩
theorem Y.amp{T:TypeId}{x y:Operand}{k:IntKind}{n:Int}{s:ByteArray}{b:UInt8}(h:o.op=.index T x y)(hx:ev x=.str s)(hy:ev y=.int k n)(hT:G.P.underlying T=some .string)(hn:0≤n)(hb:s[n.toNat]?=some b):
  Yields G o ev σ [] [] (.int .u8 (b.toNat:Int)):=
 .pure λσ' cx I β w ρ hR hw hop=>by
  have h1:=hop x (by simp[h,Op.operands]);rw[hx]at h1;simp only[Rep,aB]at h1
  have h2:=hop y (by simp[h,Op.operands]);rw[hy]at h2;have h2:=de h2
  have e1:∀w,(underlying T).run G.P w=.ok .string w:=λw=>by simp[underlying,program,Sem.run,hT]
  exact⟨.int .u8 b.toNat,by simp[execOp,h,Instr.index,h1,h2,asIntOf,e1,hn,hb],by simp[Rep,aB]⟩
end
end Go.Proofs.YtmnbolcmepihlaaGreat
namespace Go.Proofs.YtmnbolcmepihlaaGreat
set_option linter.all false
open Go Go.Sort
abbrev acn(P:Program)(f:FuncId):Prop:=∀(blk off cap:Nat) (zs:List Int) (w:World),Holds (Value.int .i64) w blk off zs.toArray→blk<w.heap.size→zs.length<4611686018427387904→
  Calls P f #[.slice (some ⟨blk,off,none⟩) zs.length cap] w λe w'=>
   e=.returned (.tuple #[])∧∃n os,w'=grow (putRow (Value.int .i64) (Go.Sort.ahead w n) blk off (zs.mergeSort λx y=>decide (x≤y)).toArray) os
def encI(n:Int):List AV:=[.int .i64 n]
def yO(x:Int):List Int→List Int
 |[]=>[x]
 |y::r=>if x≤y then x::y::r else y::yO x r
def gP:List Int→List Int
 |[]=>[]
 |x::r=>yO x (gP r)
theorem wI(x:Int):∀l:List Int,(yO x l).Perm (x::l)
 |[]=>List.Perm.refl _
 |y::r=>by
  simp only[yO];split
  ·exact List.Perm.refl _
  ·exact((wI x r).cons y).trans (List.Perm.swap x y r)
theorem pH:∀l:List Int,(gP l).Perm l
 |[]=>List.Perm.refl _
 |x::r=>(wI x (gP r)).trans ((pH r).cons x)
theorem ye(x:Int):∀l:List Int,l.Pairwise (·≤·)→(yO x l).Pairwise (·≤·)
 |[],_=>by simp[yO]
 |y::r,h=>by
  simp only[yO];rw[List.pairwise_cons]at h;split
  ·rename_i hx;rw[List.pairwise_cons];refine⟨λz hz=>?_,List.pairwise_cons.2 h⟩;rcases List.mem_cons.1 hz with rfl|hz
   ·exact hx
   ·exact Int.le_trans hx (h.1 z hz)
  ·rename_i hx;rw[List.pairwise_cons];refine⟨λz hz=>?_,ye x r h.2⟩;rcases List.mem_cons.1 ((wI x r).mem_iff.1 hz)with rfl|hz
   ·omega
   ·exact h.1 z hz
theorem sG:∀l:List Int,(gP l).Pairwise (·≤·)
 |[]=>List.Pairwise.nil
 |x::r=>ye x _ (sG r)
theorem vW:∀{l l':List Int},l.Perm l'→l.Pairwise (·≤·)→l'.Pairwise (·≤·)→l=l'
 |[],l',h,_,_=>by simpa using h.symm
 |x::r,[],h,_,_=>by simpa using h
 |x::r,y::s,h,h1,h2=>by
  rw[List.pairwise_cons]at h1 h2;have hxy:x=y:=by
   have a1:x∈y::s:=h.mem_iff.1 (by simp);have a2:y∈x::r:=h.mem_iff.2 (by simp);have b1:y≤x:=by
    rcases List.mem_cons.1 a1 with rfl|a1
    ·exact Int.le_refl _
    ·exact h2.1 x a1
   have b2:x≤y:=by
    rcases List.mem_cons.1 a2 with rfl|a2
    ·exact Int.le_refl _
    ·exact h1.1 y a2
   omega
  subst hxy;rw[vW (List.Perm.cons_inv h) h1.2 h2.2]
theorem aco(zs:List Int):(zs.mergeSort λx y=>decide (x≤y))=gP zs:=by
 refine vW ((List.mergeSort_perm zs _).trans (pH zs).symm) ?_ (sG zs);have:=List.pairwise_mergeSort (le:=λx y:Int=>decide (x≤y)) (λa b c h1 h2=>by simp at h1 h2 ⊢;omega) (λa b=>by simp;omega) zs;exact this.imp (λh=>by simpa using h)
theorem acp(zs:List Int):(gP zs).length=zs.length:=(pH zs).length_eq
theorem rN{I:Imm}:∀(zs:List Int) (vs:List Value),aS I (zs.map encI).flatten vs↔vs=zs.map (Value.int .i64)
 |[],vs=>by simp[aS]
 |z::r,vs=>by
  simp only[List.map_cons,List.flatten_cons,encI,List.singleton_append,aS,aB];constructor
  ·rintro⟨u,us,rfl,rfl,h⟩;rw[(rN r us).1 h]
  ·rintro rfl;exact⟨_,_,rfl,rfl,(rN r _).2 rfl⟩
theorem adH{P:Program}{f:FuncId}(hs:acn P f)(hn:b9 P f [] [.bI] (λr σ'=>r=.tup []∧σ'=[])){d T:Nat}(zs:List Int)(hz:zs.length<4611686018427387904):
    b9 P f [(d,.slice T 1 (zs.map encI) 0 false)] [.own d] (λr σ'=>r=.tup []∧σ'=[(d,.slice T 1 ((gP zs).map encI) 0 false)]):=by
  intro cx w I β vs hw hr;simp only[aW]at hr;obtain⟨u,us,rfl,hr,rfl⟩:=hr;have hd:Sto.get [(d,br.slice T 1 (zs.map encI) 0 false)] d=some (.slice T 1 (zs.map encI) 0 false):=by rw[Sto.aK,if_pos rfl]
  have ho:=hw.bB d _ hd;simp only[Rep]at hr;obtain⟨rfl,hr⟩:=hr;simp only[aj,List.length_map]at ho;rcases ho with q|⟨q,q2,_⟩|⟨b,cap,arr,q1,q2,q3,q4,q5,q6,q7,q8,q9,q10,q11⟩
  · rw[q]at hr;simp[fP]at hr
  · have hz0:zs=[]:=by simpa using q2
    subst hz0;have hw0:aX ⟨P,0,Sto.ids []⟩ cx I β [] w:={hw with bB:=λx o h=>by simp[Sto.get]at h,bQ:=λx y h=>by simp[Sto.get]at h,keep:=λx h=>by simp[Sto.ids]at h};refine Calls.mono (hn cx w I β [β d] hw0 (by simp only[aW,Rep,aB];exact⟨_,_,rfl,q,rfl⟩)) ?_;rintro e w' ⟨v,rfl,r,σ',I',β',⟨rfl,rfl⟩,h1,h2⟩;refine⟨v,rfl,.tup [],[(d,.slice T 1 [] 0 false)],I',β,⟨rfl,by simp[gP]⟩,?_,?_⟩
    · simp only[Rep,aW]at h1 ⊢;exact h1
    · exact{h2 with
        bB:=λx o h=>by
          rw[Sto.aK]at h;split at h
          · rename_i e;subst e;injection h with h;subst h
            simp only[aj];exact .inr (.inl ⟨q,trivial,trivial⟩)
          · simp[Sto.get]at h
        bQ:=λx y hx hy hne b hb hb'=>by
          rw[Sto.aK]at hx hy;split at hx
          · rename_i e;subst e
            split at hy
            · rename_i e';exact hne e'
            · simp[Sto.get]at hy
          · simp[Sto.get]at hx
        keep:=hw.keep}
  · simp only[Nat.mul_one]at q5 q6
    have jT:arr.toList.take zs.length=zs.map (Value.int .i64):=(rN zs _).1 q6
    have mg:∀j,j<zs.length→arr[j]?=some (Value.int .i64 (zs[j]?.getD default)):=λj hj=>by
      have:=congrArg (·[j]?) jT;simp only[List.getElem?_take,if_pos hj,Array.getElem?_toList,List.getElem?_map]at this;rw[this,List.getElem?_eq_getElem hj];rfl
    have hH:Holds (Value.int .i64) w b 0 zs.toArray:=λj hj=>by
      have hj:j<zs.length:=by simpa using hj
      constructor
      · simp only[World.cell?,q4,Nat.zero_add]
        rw[mg j hj];simp[hj]
      · simp[World.frozen?,q4]
    have hlt:=bF q4;have hc:=hs b 0 cap zs w hH hlt hz;rw[q1];refine Calls.mono hc ?_;rintro e w' ⟨rfl,n,os,rfl⟩;rw[aco];have hsl:(gP zs).length=zs.length:=acp zs;have hheap:(grow (putRow (Value.int .i64) (Go.Sort.ahead w n) b 0 (gP zs).toArray) os).heap[b]?=some (.cells (putCells (Value.int .i64) 0 (gP zs).toArray arr) T (0,0)):=by
      simp only[grow,putRow,mapBlock,Go.Sort.ahead];rw[Array.getElem?_append_left (by simpa using hlt),Array.getElem?_modify,if_pos rfl,q4];rfl
    have aet:(putCells (Value.int .i64) 0 (gP zs).toArray arr).toList.take (gP zs).length=(gP zs).map (Value.int .i64):=by
      apply List.ext_getElem?;intro j;rw[List.getElem?_take,List.getElem?_map];split
      · rename_i hj
        have hj2:j<arr.size:=by omega
        rw[Array.getElem?_toList];simp only[putCells,Array.getElem?_mapIdx];rw[Array.getElem?_eq_getElem hj2];simp[hj]
      · rename_i hj
        rw[List.getElem?_eq_none (by omega)];rfl
    refine⟨.tuple #[],rfl,.tup [],_,I,β,⟨rfl,rfl⟩,by simp only[Rep,aW];exact⟨_,rfl,rfl⟩,?_⟩;refine aX.turn (b:=b) (d:=d) hw ⟨λk hk hlt=>?_,by simp[grow,putRow,mapBlock,Go.Sort.ahead],rfl,rfl,rfl,by simp[grow,putRow,mapBlock,Go.Sort.ahead]⟩ q11 (λx hx=>?_) (λx hx h _=>?_) (aQ.refl I) (λ_ _ _=>rfl) (λo v hv=>?_) (hw.gN q4) (λ_ _=>rfl) (.inr rfl) (HLe.refl β) (.inl (by rw[q1];rfl)) (λob hob=>?_)
    · simp only[grow,putRow,mapBlock,Go.Sort.ahead]
      rw[Array.getElem?_append_left (by simpa using hlt),Array.getElem?_modify,if_neg (λe=>hk e.symm)]
    · rw[Sto.aK,Sto.aK,if_neg (Ne.symm hx),if_neg (Ne.symm hx)]
    · rw[Sto.aK,if_neg (Ne.symm hx)]at h;simp[Sto.get]at h
    · rw[q10 o (by omega)]at hv;cases hv
    · rw[Sto.aK,if_pos rfl]at hob
      injection hob with hob
      subst hob;simp only[aj,List.length_map];refine .inr (.inr ⟨b,cap,_,by rw[q1,hsl],by omega,q3,hheap,by simpa [putCells]using q5,?_,?_,by omega,?_,?_,q11⟩)
      · rw[Nat.mul_one];exact(rN _ _).2 aet
      · intro e he;obtain⟨x,_,rfl⟩:=List.mem_map.1 he;rfl
      · intro h;cases h
      · intro o _;exact q10 o (by omega)
end Go.Proofs.YtmnbolcmepihlaaGreat
namespace Go.Proofs.YtmnbolcmepihlaaGreat
set_option linter.all false
open Go
mutual
theorem AV.aav{r s:Nat→Nat}(h:∀x,s (r x)=x):∀a:AV,(a.ren r).ren s=a
 |.dM|.undef|.int _ _|.bool _|.str _|.lst _ _|.cV _|.bI|.lC|.cfn _ _|.sl0|.mpf _|.arr _=>rfl
 |.agg cs=>by simp only[AV.ren,qi h cs]
 |.tup cs=>by simp only[AV.ren,qi h cs]
 |.fn _ cs=>by simp only[AV.ren,qi h cs]
 |.own d=>by simp only[AV.ren,h d]
 |.ptr d _=>by simp only[AV.ren,h d]
 |.hnd _ d=>by simp only[AV.ren,h d]
 |.bX d=>by simp only[AV.ren,h d]
theorem qi{r s:Nat→Nat}(h:∀x,s (r x)=x):∀l:List AV,o9 s (o9 r l)=l
 |[]=>rfl
 |x::t=>by simp only[o9,AV.aav h x,qi h t]
end
theorem Sto.oe{r s:Nat→Nat}(h:∀x,s (r x)=x):∀(σ:Sto) (d:Nat),(σ.ren r).get (r d)=(σ.get d).map (·.ren r)
 |[],d=>rfl
 |(k,v)::t,d=>by
  have:=Sto.oe h t d;simp only[Sto.ren]at this ⊢;simp only[List.map_cons,Sto.aK];by_cases hk:k=d
  ·subst hk;simp
  ·have:r k≠r d:=λe=>hk (by rw[←h k,←h d,e]);simp only[hk,this,if_false];assumption
theorem Sto.ad3(r:Nat→Nat)(σ:Sto):(σ.ren r).ids=σ.ids.map r:=by simp[Sto.ids,Sto.ren]
theorem aj.ren{cx:Cx}{I:Imm}{β β':Nat→Value}{w:World}{r:Nat→Nat}(hb:∀d,β' (r d)=β d){d:Nat}{o:br}{cx':Cx}(hc:∀b,Place cx b→Place cx' b)(h:aj cx I β w d o):aj cx' I β' w (r d) (o.ren r):=by
 cases o with
 |cells T cs=>
  simp only[aj,br.ren,hb]at h ⊢;rcases h with q|⟨b,arr,e1,e2,e3,e4,e5⟩
  ·exact .inl q
  ·exact .inr ⟨b,arr,e1,e2,ow (p:=λ_=>false) (λd _=>hb d) cs _ (jY (λ_=>rfl) cs) e3,e4,hc _ e5⟩
 |slice T sz xs k fz=>
  simp only[aj,br.ren,hb]at h ⊢;rcases h with q|q|⟨b,cap,arr,q1,q2,q3,q4,q5,q6,q7,q8,q9,q10,q11⟩
  ·exact .inl q
  ·exact .inr (.inl q)
  ·exact .inr (.inr ⟨b,cap,arr,q1,q2,q3,q4,q5,q6,q7,q8,q9,q10,hc _ q11⟩)
 |win T sz xs=>
  simp only[aj,br.ren,hb]at h ⊢;rcases h with q|q|⟨b,o',cap,arr,q1,q2,q3,q4,q5,q6,q7,q8,q9⟩
  ·exact .inl q
  ·exact .inr (.inl q)
  ·exact .inr (.inr ⟨b,o',cap,arr,q1,q2,q3,q4,q5,q6,q7,q8,hc _ q9⟩)
 |map K E aL=>
  simp only[aj,br.ren,hb]at h ⊢;rcases h with q|⟨b,es,c,q1,q2,q3,q4,q5,q6⟩
  ·exact .inl q
  ·exact .inr ⟨b,es,c,q1,q2,q3,q4,hc _ q5,q6⟩
 |jA K E aL=>
  simp only[aj,br.ren,hb]at h ⊢;rcases h with q|⟨b,es,c,q1,q2,q3,q5,q6⟩
  ·exact .inl q
  ·exact .inr ⟨b,es,c,q1,q2,q3,hc _ q5,q6⟩
 |dI es clock K E aL=>
  simp only[aj,br.ren,hb]at h ⊢;rcases h with q|⟨b,q1,q2,q3,q4,q5,q6⟩
  ·exact .inl q
  ·exact .inr ⟨b,q1,q2,q3,q4,hc _ q5,q6⟩
 |iter dm since c0 seen=>
  simp only[aj,br.ren,hb]at h ⊢;rcases h with q|⟨b,bm,q1,q2,q3,q4,q5⟩
  ·exact .inl q
  ·exact .inr ⟨b,bm,q1,q2,q3,q4,hc _ q5⟩
 |hdr dm n=>simpa only[aj,br.ren,hb]using h
 |bun els=>
  simp only[aj,br.ren,hb]at h ⊢;rcases h with q|⟨hs,q1,q2⟩
  ·exact .inl q
  ·exact .inr ⟨hs,q1,q2.go (aQ.refl I) λb _=>⟨λ_=>rfl,λ_=>rfl,hc b⟩⟩
 |slm T xs t=>
  simp only[aj,br.ren,hb]at h ⊢;rcases h with q|⟨b',cap,arr,q1,q2,q3,q4,q5,q6,q7,q8,q9,q10,q11⟩
  ·exact .inl q
  ·exact .inr ⟨b',cap,arr,q1,q2,q3,q4,q5,q6,q7,q8,q9,q10,hc _ q11⟩
 |vec T xs=>
  simp only[aj,br.ren,hb]at h ⊢;rcases h with q|⟨b',arr,q1,q2,q3,q4,q5⟩
  ·exact .inl q
  ·exact .inr ⟨b',arr,q1,q2,q3,q4,hc _ q5⟩
 |ei es clock aL seen=>
  simp only[aj,br.ren,hb]at h ⊢;rcases h with q|⟨r',bm,q1,q2,q3,q4,q5,q6,q7⟩
  ·exact .inl q
  ·exact .inr ⟨r',bm,q1,q2,q3,q4,q5,q6,hc _ q7⟩
 |b8 T e n hole=>
  have hh:∀hs as,eW β' hs as (pg r hole)↔eW β hs as hole:=λhs as=>by
   cases hole with
   |none=>exact Iff.rfl
   |some q=>obtain⟨i,t⟩:=q;cases i<;>simp only[eW,pg,hb]
  simp only[aj,br.ren,hb,hh]at h ⊢;rcases h with q|⟨b',cap,arr,hs,q1,q2,q3,q4,q5,q6,q7,q8,q9,q10⟩
  ·exact .inl q
  ·exact .inr ⟨b',cap,arr,hs,q1,q2,q3,q4,q5,q6,q7,q8,q9,hc _ q10⟩
 |gh K E e keys hole fx=>
  have hh:∀hs as,eW β' hs as (pg r hole)↔eW β hs as hole:=λhs as=>by
   cases hole with
   |none=>exact Iff.rfl
   |some q=>obtain⟨i,t⟩:=q;cases i<;>simp only[eW,pg,hb]
  simp only[aj,br.ren,hb,hh]at h ⊢;rcases h with q|⟨r,es,clock,hs,as,q1,q2,q3,q4,q5,q6,q7,q8⟩
  ·exact .inl q
  ·exact .inr ⟨r,es,clock,hs,as,q1,q2,q3,q4,q5,q6,hc _ q7,q8⟩
theorem br.aav{r s:Nat→Nat}(h:∀x,s (r x)=x):∀o:br,(o.ren r).ren s=o
 |.cells T cs=>by simp only[br.ren,qi h cs]
 |.slice ..=>rfl
 |.map ..=>rfl
 |.win ..=>rfl
 |.jA ..=>rfl
 |.dI ..=>rfl
 |.iter dm _ _ _=>by simp only[br.ren,h dm]
 |.hdr dm _=>by simp only[br.ren,h dm]
 |.bun ..=>rfl
 |.slm T xs t=>by simp only[br.ren,h t]
 |.ei ..=>rfl
 |.vec ..=>rfl
 |.b8 T e n none=>by simp only[br.ren,pg,h e]
 |.b8 T e n (some (i,t))=>by simp only[br.ren,pg,h e,h t]
 |.gh K E e keys none fx=>by simp only[br.ren,pg,h e]
 |.gh K E e keys (some (i,t)) fx=>by simp only[br.ren,pg,h e,h t]
theorem b9.ren{P:Program}{f:FuncId}{σ0:Sto}{args:List AV}{Post:AV→Sto→Prop}(h:b9 P f σ0 args Post)(r s:Nat→Nat)(hsr:∀x,s (r x)=x)(hrs:∀x,r (s x)=x):
    b9 P f (σ0.ren r) (o9 r args) (λa σ'=>∃a0 σ1,Post a0 σ1∧a=a0.ren r∧σ'=σ1.ren r):=by
  intro cx w I β vs hw hr;have hin:∀x y,r x=r y→x=y:=λx y e=>by rw[←hsr x,←hsr y,e]
  have hw1:aX ⟨P,0,σ0.ids⟩ {cx with β0:=λx=>cx.β0 (r x)} I (λx=>β (r x)) σ0 w:=
    {good:=hw.good,dO:=hw.dO,eX:=hw.eX,fU:=hw.fU,frame:=hw.frame,size:=hw.size,tape:=hw.tape,os:=hw.os,output:=hw.output,drawn:=hw.drawn
     bB:=λd o hd=>by
        have h1:=hw.bB (r d) (o.ren r) (by rw[Sto.oe hsr,hd];rfl);have h2:=aj.ren (cx:=cx) (r:=s) (β:=β) (β':=λx=>β (r x)) (λx=>by show β (r (s x))=β x;rw[hrs]) (cx':={cx with β0:=λx=>cx.β0 (r x)}) (λb hb=>hb) h1
        rwa [hsr,br.aav hsr]at h2
     bQ:=λd d' hd hd' hne b hb=>hw.bQ (r d) (r d') (by rw[Sto.oe hsr];simpa using hd) (by rw[Sto.oe hsr];simpa using hd') (λe=>hne (hin _ _ e)) b hb
     keep:=λd hd=>hw.keep (r d) (by show r d∈(σ0.ren r).ids;rw[Sto.ad3];exact List.mem_map_of_mem hd)}
  have hr1:aW I (λx=>β (r x)) args vs:=by
    have:=ow (r:=s) (β':=λx=>β (r x)) (p:=λ_=>false) (λx _=>by show β (r (s x))=β x;rw[hrs]) (o9 r args) vs (jY (λ_=>rfl) _) hr
    rwa [qi hsr]at this
  refine Calls.mono (h _ w I _ vs hw1 hr1) ?_;rintro e w' ⟨v,rfl,a,σ',I',β',hp,fD,hw'⟩;refine⟨v,rfl,a.ren r,σ'.ren r,I',λx=>β' (s x),⟨a,σ',hp,rfl,rfl⟩,aan (r:=r) (p:=λ_=>false) (λx _=>by show β' (s (r x))=β' x;rw[hsr]) a v (wz (λ_=>rfl) a) fD,?_⟩
  have mg:∀d,(σ'.ren r).get d=(σ'.get (s d)).map (·.ren r):=λd=>by
    have:=Sto.oe hsr σ' (s d)
    rwa [hrs]at this
  exact{good:=hw'.good,dO:=hw'.dO,eX:=hw'.eX,fU:=hw'.fU,frame:=hw'.frame,size:=hw'.size,tape:=hw'.tape,os:=hw'.os,output:=hw'.output,drawn:=hw'.drawn
        bB:=λd o hd=>by
            rw[mg]at hd;obtain⟨o0,h0,rfl⟩:=Option.map_eq_some_iff.1 hd;have:=aj.ren (cx:={cx with β0:=λx=>cx.β0 (r x)}) (r:=r) (β:=β') (β':=λx=>β' (s x)) (λx=>by show β' (s (r x))=β' x;rw[hsr]) (cx':=cx) (λb hb=>hb) (hw'.bB (s d) o0 h0)
            rwa [hrs]at this
        bQ:=λd d' hd hd' hne b hb=>by
            rw[mg]at hd hd';exact hw'.bQ (s d) (s d') (by simpa using hd) (by simpa using hd') (λe=>hne (by rw[←hrs d,←hrs d',e])) b hb
        keep:=λd hd=>by
            have:s d∈σ0.ids:=by
              have hd:d∈(σ0.ren r).ids:=hd;rw[Sto.ad3]at hd;obtain⟨x,hx,rfl⟩:=List.mem_map.1 hd;rw[hsr];exact hx
            have:=hw'.keep (s d) this;show β' (s d)=_;rw[this];show cx.β0 (r (s d))=_;rw[hrs]}
def swp(a b x:Nat):Nat:=bif Nat.beq x a then b else bif Nat.beq x b then a else x
theorem ad4(a b x:Nat):swp a b (swp a b x)=x:=by
 have e:∀u v:Nat,Nat.beq u v=decide (u=v):=λu v=>by rw[Bool.eq_iff_iff];simp
 simp only[swp,e];by_cases h1:x=a
 ·subst h1;by_cases h2:b=x
  ·subst h2;simp
  ·simp[h2]
 ·by_cases h2:x=b
  ·subst h2;simp[h1]
  ·simp[h1,h2]
def pI:List (Nat×Nat)→Nat→Nat
 |[],x=>x
 |(a,b)::r,x=>swp a b (pI r x)
def xM:List (Nat×Nat)→Nat→Nat
 |[],x=>x
 |(a,b)::r,x=>xM r (swp a b x)
theorem acq:∀(l:List (Nat×Nat)) (x:Nat),xM l (pI l x)=x
 |[],x=>rfl
 |(a,b)::r,x=>by simp only[pI,xM,ad4,acq r]
theorem abj:∀(l:List (Nat×Nat)) (x:Nat),pI l (xM l x)=x
 |[],x=>rfl
 |(a,b)::r,x=>by simp only[pI,xM,abj r,ad4]
theorem b9.at{P:Program}{f:FuncId}{σ0:Sto}{args:List AV}{Post:AV→Sto→Prop}(h:b9 P f σ0 args Post)(l:List (Nat×Nat)):
  b9 P f (σ0.ren (pI l)) (o9 (pI l) args) (λa σ'=>∃a0 σ1,Post a0 σ1∧a=a0.ren (pI l)∧σ'=σ1.ren (pI l)):=
 h.ren (pI l) (xM l) (acq l) (abj l)
theorem abk{I:Imm}{β β':Nat→Value}{b:AV}{post:List AV}:∀(pre:List AV) (vs:List Value) {a:AV},aW I β (pre++a::post) vs→(∀x v,x∈pre∨x∈post→Rep I β x v→Rep I β' x v)→(∀v,Rep I β a v→Rep I β' b v)→aW I β' (pre++b::post) vs
 |[],vs,a,h,h1,h2=>by
  simp only[List.nil_append,aW]at h ⊢;obtain⟨u,us,rfl,q1,q2⟩:=h;have key:∀(l:List AV) (vs:List Value),(∀x∈l,x∈post)→aW I β l vs→aW I β' l vs:=by
   intro l;induction l with
   |nil=>intro _ _ h;exact h
   |cons x r ih=>
    intro vs hm h;simp only[aW]at h ⊢;obtain⟨u,us,rfl,p1,p2⟩:=h;exact⟨u,us,rfl,h1 x u (.inr (hm x (by simp))) p1,ih us (λy hy=>hm y (by simp[hy])) p2⟩
  exact⟨u,us,rfl,h2 u q1,key post us (λx hx=>hx) q2⟩
 |x::r,vs,a,h,h1,h2=>by
  simp only[List.cons_append,aW]at h ⊢;obtain⟨u,us,rfl,q1,q2⟩:=h;exact⟨u,us,rfl,h1 x u (.inl (by simp)) q1,abk r us q2 (λy v hy=>h1 y v (hy.imp (λh=>by simp[h]) id)) h2⟩
theorem abl{p:Nat→Bool}:∀{l:List AV},jX p l=false→∀x∈l,x.refs p=false
 |[],_,x,h=>by simp at h
 |y::r,h,x,hx=>by
  simp only[jX,Bool.or_eq_false_iff]at h;rcases List.mem_cons.1 hx with rfl|hx
  ·exact h.1
  ·exact abl h.2 x hx
theorem aU.amq{G:Gl}{env:Env}{σ:Sto}(d0 d:Nat)(T:TypeId)(sz:Nat)(T0:TypeId)(pre post:List AV)(h0:σ.get d0=some (.cells T0 (pre++.bI::post)))(hne:Nat.beq d0 d=false)(hi:G.ids.contains d=false)(hc:env.clean (Nat.beq d)=true)(hs:σ.clean (Nat.beq d)=true):
  aU G env σ env ((d,.slice T sz [] 0 false)::σ.set d0 (.cells T0 (pre++.own d::post))):=λcx I β a w h h'=>by
 let β':Nat→Value:=λx=>if x=d then .slice none 0 0 else β x
 have hne:d0≠d:=λe=>by subst e;simp at hne
 have hb:∀x,Nat.beq d x=false→β' x=β x:=λx hx=>by
  have:x≠d:=λe=>by subst e;simp at hx
  show(if x=d then _ else β x)=_;rw[if_neg this]
 have hbd:β' d=.slice none 0 0:=by show(if d=d then _ else _)=_;rw[if_pos rfl]
 have dN:∀x,x≠d→Sto.get ((d,.slice T sz [] 0 false)::σ.set d0 (.cells T0 (pre++.own d::post))) x=if x=d0 then some (.cells T0 (pre++.own d::post))else σ.get x:=λx hx=>by
  rw[Sto.aK,if_neg (Ne.symm hx),Sto.cB,h0];rfl
 have hsome:∀x,x≠d→(Sto.get ((d,.slice T sz [] 0 false)::σ.set d0 (.cells T0 (pre++.own d::post))) x).isSome→(σ.get x).isSome:=λx hx hs=>by
  rw[dN x hx]at hs;split at hs
  ·rename_i e;subst e;rw[h0];rfl
  ·exact hs
 refine⟨I,β',{h with bB:=λx o e=>?_,bQ:=λx y ex ey hxy b=>?_,keep:=λx hx=>?_},λu=>?_⟩
 ·by_cases hx:x=d
  ·subst hx;rw[Sto.aK,if_pos rfl]at e;cases e;simp only[aj,hbd];exact .inr (.inl ⟨trivial,trivial,trivial⟩)
  ·rw[dN x hx]at e;split at e
   ·rename_i e';subst e';cases e
    have ho:=h.bB x _ h0;obtain⟨c1,c2⟩:=Sto.cm hs x _ h0;simp only[fV]at c2;simp only[aj,hb x c1]at ho ⊢;rcases ho with q|⟨b,arr,e1,e2,e3,e4⟩
    ·exact .inl q
    ·refine .inr ⟨b,arr,e1,e2,abk pre _ e3 (λy v hy hr=>kP hb y v ?_ hr) (λv hv=>?_),e4⟩
     ·exact abl c2 y (by rcases hy with hy|hy<;>simp[hy])
     ·simp only[Rep,aB]at hv;simp only[Rep,hv,hbd,fP,and_self]
   ·obtain⟨c1,c2⟩:=Sto.cm hs x o e;exact(h.bB x o e).beta hb c1 c2
 ·by_cases hx:x=d
  ·subst hx;rw[hbd];simp[uE]
  ·by_cases hy:y=d
   ·subst hy;rw[hbd];simp[uE]
   ·rw[hb x (by rw[←Bool.not_eq_true,Nat.beq_eq];exact Ne.symm hx),hb y (by rw[←Bool.not_eq_true,Nat.beq_eq];exact Ne.symm hy)];exact h.bQ x y (hsome x hx ex) (hsome y hy ey) hxy b
 ·have:d≠x:=λe=>by subst e;simp at hi;exact hi hx
  rw[hb x (by rw[←Bool.not_eq_true,Nat.beq_eq];exact this)];exact h.keep x hx
 ·exact kP hb _ _ (Env.cm hc u) (h' u)
end Go.Proofs.YtmnbolcmepihlaaGreat
namespace Go.Proofs.YtmnbolcmepihlaaGreat
set_option linter.all false
open Go
theorem aX.stay{G:Gl}{cx:Cx}{I:Imm}{β:Nat→Value}{σ:Sto}{w w':World}(h:aX G cx I β σ w)(hk:∀b,b<w.heap.size→w'.heap[b]?=w.heap[b]?)(hs:w.heap.size≤w'.heap.size)(ht:w'.tape=w.tape)(ho:w'.os=w.os)(hu:w'.output=w.output)(hdr:w.drawn≤w'.drawn):aX G cx I β σ w':=by
  have hK:Kept w w' w.heap.size:=⟨λk _ hlt=>hk k hlt,hs,ht,ho,hu,hdr⟩
  exact{good:=λb o v hv=>by
            have h1:=h.good b o v hv;have hlt:b<w.heap.size:=World.block_lt_of_cell? w _ h1;rw[World.cell?_of_block (w:=w) (hk b hlt)];exact h1
        dO:=λb v hv=>by
            obtain⟨es,clock,h1,h2⟩:=h.dO b v hv;exact⟨es,clock,by rw[hk b (bF h1)];exact h1,h2⟩
        eX:=h.eX,fU:=h.fU
        frame:=λb hb hm=>by rw[hk b (Nat.lt_of_lt_of_le hb h.size)];exact h.frame b hb hm
        size:=Nat.le_trans h.size hs,tape:=ht.trans h.tape,os:=ho.trans h.os,output:=hu.trans h.output,drawn:=Nat.le_trans h.drawn hdr
        bB:=λd o hd=>(h.bB d o hd).keep hK rfl (λe=>by have:=h.lE hd e;omega) (aQ.refl I) (λ_ _ _=>rfl) (HLe.refl β)
        bQ:=h.bQ,keep:=h.keep}
mutual
def AV.ic:AV→Bool
 |.int _ _=>true
 |.bool _=>true
 |.str _=>true
 |.undef=>true
 |.tup cs=>lu cs
 |.agg cs=>lu cs
 |_=>false
def lu:List AV→Bool
 |[]=>true
 |x::r=>x.ic&&lu r
end
mutual
theorem Rep.ic{I I':Imm}{β β':Nat→Value}:∀(a:AV) (v:Value),a.ic=true→Rep I β a v→Rep I' β' a v
 |.int _ _,v,_,h=>by simpa only[Rep,aB]using h
 |.bool _,v,_,h=>by simpa only[Rep,aB]using h
 |.str _,v,_,h=>by simpa only[Rep,aB]using h
 |.undef,v,_,h=>by simpa only[Rep,aB]using h
 |.tup cs,v,hs,h=>by
  simp only[Rep,AV.ic]at h hs ⊢;obtain⟨vs,h1,h2⟩:=h;exact⟨vs,h1,aW.ic cs _ hs h2⟩
 |.agg cs,v,hs,h=>by
  simp only[Rep,AV.ic]at h hs ⊢;obtain⟨vs,h1,h2⟩:=h;exact⟨vs,h1,aW.ic cs _ hs h2⟩
 |.dM,_,hs,_|.lst _ _,_,hs,_|.cV _,_,hs,_|.fn _ _,_,hs,_|.bI,_,hs,_|.lC,_,hs,_|.own _,_,hs,_|.ptr _ _,_,hs,_|.bX _,_,hs,_|.cfn _ _,_,hs,_|.sl0,_,hs,_|.hnd _ _,_,hs,_=>by simp[AV.ic]at hs
theorem aW.ic{I I':Imm}{β β':Nat→Value}:∀(a:List AV) (v:List Value),lu a=true→aW I β a v→aW I' β' a v
 |[],v,_,h=>h
 |x::r,v,hs,h=>by
  simp only[aW,lu,Bool.and_eq_true]at h hs ⊢;obtain⟨u,us,h1,h2,h3⟩:=h;exact⟨u,us,h1,Rep.ic x u hs.1 h2,aW.ic r us hs.2 h3⟩
end
theorem qj{I:Imm}{sz:Nat}:∀(xs:List (List AV)) (i:Nat),(∀e∈xs,e.length=sz)→i<xs.length→∃A B,xs.flatten=A++xs.getD i []++B∧A.length=i*sz∧(∀e',(xs.set i e').flatten=A++e'++B)
 |[],_,_,h=>by simp at h
 |e::r,0,hl,_=>⟨[],r.flatten,by simp,by simp,by simp⟩
 |e::r,i+1,hl,h=>by
  obtain⟨A,B,h1,h2,h3⟩:=qj (I:=I) r i (λx hx=>hl x (by simp[hx])) (by simpa using h);refine⟨e++A,B,by simp[h1],?_,by simp[h3]⟩;rw[List.length_append,h2,hl e (by simp),Nat.add_mul];omega
section ops
variable {G:Gl}{o:Oper}{env:Env}{σ:Sto}{x y:Operand}
theorem Y.ahh{fo:Operand}{args:Array Operand}{k:Array TypeId}{f:FuncId}{cap avs ps:List AV}{σs:Sto}{r:AV}(h:o.op=.call ⟨.value fo,args,k⟩)(hf:env.ev fo=.fn f cap)
  (kf:∀(args:Array Value) (w:World),(callFunc f args).run G.P w=.ok (.enter f args) w) (hro:RO G.P f [] avs r) (hp:env.nk args.toList=some ps) (ha:fM (σs.freeze σs.ids) (ps++cap) avs) (hs:pG σ σs)
  (hr:r.ic=true):Yields G o env.ev σ [] σs.ids r:=by
 intro σ' cx I β w ρ hR hw _ hop;have hf1:=hop fo (by simp[h,Op.operands,Call.operands]);rw[hf]at hf1;simp only[Rep]at hf1;obtain⟨vs,hf1,hcap⟩:=hf1;rw[qh h hf1 kf]
 have hsub:∀d o,σs.get d=some o→σ'.get d=some o:=λd o hd=>by
  obtain⟨p,p1,p2,p3⟩:=jo σs d o hd;rw[hR d (by rw[←p2];exact List.mem_map.2 ⟨p,p1,rfl⟩),←p2,←p3];exact hs.mem p p1
 obtain⟨I1,hle,hw1⟩:=(hw.sub hsub).qI σs.ids;have hargs:=fI _ _ _ _ (ni env.ev ρ args.toList λx hx=>hop x (by simp only[h,Op.operands,Call.operands];simp;right;simpa using hx)) hcap;rw[Env.oQ hp]at hargs;have nj:=ha.rep hw1 _ (iN hle (HLe.refl β) _ _ hargs);have hin:=hw1.wA (P:=G.P) (σc:=[]) (by simp);refine Calls.mono (hro _ w I1 β _ hin nj) ?_;rintro e w' ⟨v,he,r',σ2,I',β',⟨hr1,hr2⟩,fD,hw'⟩;subst hr1 hr2;have hst:aX G cx I β σ' w':=hw.stay (λb hb=>hw'.frame b hb (by simp[gO,kQ,Sto.ids])) hw'.size hw'.tape hw'.os hw'.output hw'.drawn;exact⟨v,he,I,β,Rep.ic r' v hr fD,hst,aQ.refl I,λ_ _=>rfl⟩
theorem Y.amr{α:Type}[Inhabited α]{T E sz d T' n:Nat}{k:IntKind}{i:Int}{fz:Bool}(rs:List α)(enc:α→List AV)(h:o.op=.indexAddr T x y)(hx:env.ev x=.own d)(hy:env.ev y=.int k i)(hd:σ.get d=some (.slice T' sz (rs.map enc) n fz))(hT:SlS G.P T E sz)
  (hi:0≤i∧i<rs.length):Yields G o env.ev σ [] [d] (.ptr d (i.toNat*sz)):=
 .pure λσ' cx I β w ρ hR hw hop=>by
  have h1:=hop x (by simp[h,Op.operands]);rw[hx]at h1
  have h2:=hop y (by simp[h,Op.operands]);rw[hy]at h2;have h2:=de h2
  simp only[Rep]at h1;obtain⟨h1,hs⟩:=h1;have hob:=hw.bB d _ (by rw[hR d (by simp)];exact hd);simp only[aj,List.length_map]at hob;have hlt:i.toNat<rs.length:=by omega
  rcases hob with q|⟨_,q,_⟩|⟨b,cap,arr,q1,q2,_⟩
  ·rw[h1,q]at hs;simp[fP]at hs
  ·have:rs=[]:=by simpa using q
   subst this;simp at hlt
  ·refine⟨.pointer (some ⟨b,i.toNat*sz,none⟩),?_,by simp only[Rep];exact⟨b,by rw[q1];rfl,rfl⟩⟩;have e1:∀w,(underlying T).run G.P w=.ok (.slice E) w:=λw=>by simp[underlying,program,Sem.run,hT.und]
   rw[q1]at h1;simp[execOp,h,h1,h2,Instr.indexAt,asIntOf,e1,hi,hT.size,dY]
theorem abm{G:Gl}{cx:Cx}{I:Imm}{β:Nat→Value}{σ:Sto}{w:World}(hw:aX G cx I β σ w){d T sz k b:Nat}{fz:Bool}{xs:List (List AV)}(hd:σ.get d=some (.slice T sz xs k fz))(hb:blk (β d)=some b):
  ∃cap arr,β d=.slice (some ⟨b,0,none⟩) xs.length cap∧xs.length≤cap∧cap≤maxLen∧w.heap[b]?=some (.cells arr T (0,0))∧arr.size=cap*sz∧aS I xs.flatten (arr.toList.take (xs.length*sz))∧(∀e∈xs,e.length=sz)∧k≤xs.length∧
   (fz=true→∀o,o<xs.length*sz→I b o=arr[o]?)∧(∀o,k*sz≤o→I b o=none)∧Place cx b∧aW I β (xs.flatten++List.replicate (arr.size-xs.length*sz) .dM) arr.toList:=by
 have ho:=hw.bB d _ hd;simp only[aj]at ho;rcases ho with q|⟨q,_⟩|⟨b',cap,arr,q1,q2,q3,q4,q5,q6,q7,q8,q9,q10,q11⟩
 ·rw[q]at hb;simp[blk]at hb
 ·rw[q]at hb;simp[blk]at hb
 ·have:b'=b:=by rw[q1]at hb;simpa [blk]using hb
  subst this;refine⟨cap,arr,q1,q2,q3,q4,q5,q6,q7,q8,q9,q10,q11,?_⟩;have e:arr.toList=arr.toList.take (xs.length*sz)++arr.toList.drop (xs.length*sz):=(List.take_append_drop _ _).symm;rw[e];refine fI _ _ _ _ (aS.rep β _ _ q6) ?_;have hj:∀(l:List Value),aW I β (List.replicate l.length .dM) l:=by
   intro l;induction l with
   |nil=>simp[aW]
   |cons v r ih=>simp only[List.length_cons,List.replicate_succ,aW];exact⟨v,r,rfl,by simp[Rep],ih⟩
  have:=hj (arr.toList.drop (xs.length*sz));simpa using this
theorem Y.ap7{α:Type}[Inhabited α]{T T':TypeId}{n d p sz k off:Nat}{fz ag:Bool}{i:Int}(rs:List α)(enc:α→List AV)(h:o.op=.load T x)(hx:env.ev x=.ptr d p)(hd:σ.get d=some (.slice T' sz (rs.map enc) k fz))(hp:p=i.toNat*sz+off)
  (hi:0≤i∧i<rs.length) (hT:TyS G.P T n ag) (h0:(ag||Nat.blt 0 n)=true) (hn:Nat.ble (off+n) sz=true) {a:AV} (ha:ldO ag n ((enc (el rs i)).drop off)=some a):Yields G o env.ev σ [] [d] a:=
 .pure λσ' cx I β w ρ hR hw hop=>by
  have hn:off+n≤sz:=by simpa using hn
  have h1:=hop x (by simp[h,Op.operands]);rw[hx]at h1
  simp only[Rep]at h1;obtain⟨b,h1,h2⟩:=h1;obtain⟨cap,arr,q1,q2,q3,q4,q5,q6,q7,q8,q9,q10,q11,q12⟩:=abm hw (by rw[hR d (by simp)];exact hd) h1;have hlt:i.toNat<rs.length:=by omega
  obtain⟨A,B,s1,s2,_⟩:=qj (I:=I) (rs.map enc) i.toNat q7 (by simpa using hlt);have mg:(rs.map enc).getD i.toNat []=enc (el rs i):=by
   simp[List.getD_eq_getElem?_getD,hlt,el]
  rw[mg]at s1;have hz:(enc (el rs i)).length=sz:=q7 _ (by rw[←mg,List.getD_eq_getElem?_getD,List.getElem?_eq_getElem (by simpa using hlt)];exact List.getElem_mem _)
  obtain⟨v,r1,r2⟩:=pq hT (λe=>by subst e;simpa using h0) (off:=p) q4 q12 (by
   rw[s1];simp only[List.length_append,s2,hz];omega)
  refine⟨v,by simp[execOp,h,h2,Instr.loadAt,Instr.sureAddr,r1],?_⟩;have e:((List.map enc rs).flatten++List.replicate (arr.size-(List.map enc rs).length*sz) AV.dM).drop p=(enc (el rs i)).drop off++(B++List.replicate (arr.size-(List.map enc rs).length*sz) AV.dM):=by
   rw[s1,hp,List.append_assoc,List.append_assoc,←List.drop_drop,←s2,List.drop_left,List.drop_append_of_le_length (by omega)]
  rw[e]at r2;have e2:lD ag n ((enc (el rs i)).drop off++(B++List.replicate (arr.size-(List.map enc rs).length*sz) AV.dM))=lD ag n ((enc (el rs i)).drop off):=by
   have hl:n≤((enc (el rs i)).drop off).length:=by simp;omega
   cases ag with
   |true=>simp only[lD,cond_true];rw[List.take_append_of_le_length hl]
   |false=>
    simp only[lD,cond_false];have hn0:0<n:=by simpa using h0
    cases hc:(enc (el rs i)).drop off with
    |nil=>rw[hc]at hl;simp at hl;omega
    |cons z t=>rfl
  rw[e2,wH ha]at r2;exact r2
theorem uT{I:Imm}{β:Nat→Value}{a:List AV}{v:List Value}(hc:eO a=true)(h:aW I β a v):aS I a v:=aW.closed a v hc h
theorem D.ams{α:Type}[Inhabited α]{T T' d p sz k off n:Nat}{fz ag:Bool}{a:AV}{ca:List AV}{i:Int}{ev:Operand→AV}(rs:List α)(enc:α→List AV)(r':α)(h:o.op=.store T x y)(hx:ev x=.ptr d p)(hy:ev y=a)(hd:σ.get d=some (.slice T' sz (rs.map enc) k fz))(hp:p=i.toNat*sz+off)
  (hi:0≤i∧i<rs.length) (hk:(k:Int)≤i) (hT:TyS G.P T n ag) (hf:a.flat=true) (hca:mD a=some ca) (hcl:eO ca=true) (hn:Nat.beq ca.length n=true) (hl:Nat.ble (off+n) sz=true) (hr:cG (enc (el rs i)) off ca=enc r') :
  dU G o ev σ [d] [] (λr σ'=>r=.undef∧σ'=σ.set d (.slice T' sz ((rs.set i.toNat r').map enc) k false)):=by
 intro cx I β w ρ hw hop;have hn:ca.length=n:=by simpa using hn
 have hl:off+n≤sz:=by simpa using hl
 have h1:=hop x (by simp[h,Op.operands]);rw[hx]at h1
 have h2:=hop y (by simp[h,Op.operands]);rw[hy]at h2
 simp only[Rep]at h1;obtain⟨b,h1,h3⟩:=h1;obtain⟨cap,arr,q1,q2,q3,q4,q5,q6,q7,q8,q9,q10,q11,q12⟩:=abm hw hd h1;obtain⟨f1,f2⟩:=AV.qK hf h2;rw[oR hca]at f1;have l2:=gd _ _ f1;have hlt:i.toNat<rs.length:=by omega
 obtain⟨A,B,s1,s2,s3⟩:=qj (I:=I) (rs.map enc) i.toNat q7 (by simpa using hlt);have mg:(rs.map enc).getD i.toNat []=enc (el rs i):=by simp[List.getD_eq_getElem?_getD,hlt,el]
 rw[mg]at s1;have hz:(enc (el rs i)).length=sz:=q7 _ (by rw[←mg,List.getD_eq_getElem?_getD,List.getElem?_eq_getElem (by simpa using hlt)];exact List.getElem_mem _);have hz':(enc r').length=sz:=by rw[←hr];simp only[cG,List.length_append,List.length_take,List.length_drop,hz];omega
 simp only[List.length_map]at q1 q2 q5 q6 q8;have hsz:i.toNat*sz+sz≤rs.length*sz:=by
  have:=Nat.mul_le_mul_right sz (show i.toNat+1≤rs.length from hlt)
  rwa [Nat.add_mul,Nat.one_mul]at this
 have hsz2:rs.length*sz≤arr.size:=by rw[q5];exact Nat.mul_le_mul_right sz q2
 have hst:=kg (P:=G.P) q4 (ρ y).cells.toList (off:=p) (by omega) f2;have l3:(ρ y).cells.size=ca.length:=by simpa using l2
 have hrun:(execOp ρ o).run G.P w=.ok .skip (w.setRow b (cG arr.toList p (ρ y).cells.toList).toArray):=by
  have e1:¬((ρ y).cells.size≠n):=by omega
  simp[execOp,h,h3,Instr.storeAt,Instr.sureAddr,storeVar,hT.size,e1,hst]
 rw[hrun];refine⟨.undef,_,I,β,⟨rfl,rfl⟩,by simp[Rep,aB],?_,aQ.refl I,λ_ _=>rfl,λx hx=>by rw[Sto.cB,if_neg (by simpa using hx)]⟩;have hkp:k*sz≤p:=by
  have:k≤i.toNat:=by omega
  have:=Nat.mul_le_mul_right sz this;omega
 refine hw.turn (d:=d) (Kept.setRow w b _) q11 (λx hx=>by rw[Sto.cB,if_neg hx]) (λx hx hs e=>hw.bQ x d hs (by rw[hd];rfl) hx b e (cR h1)) (aQ.refl I) (λ_ _ _=>rfl)
  (λo v hv=>?_) (hw.gN q4) (λ_ _=>rfl) (.inr rfl) (HLe.refl β) (.inl h1) λob hob=>?_
 ·
  have ho:o<k*sz:=by
   by_cases ho:o<k*sz
   ·exact ho
   ·rw[q10 o (by omega)]at hv;cases hv
  have hg:=hw.good b o v hv;simp only[World.cell?,q4]at hg;simp only[World.cell?,setRow_heap w b arr _ T' _ q4];simp only[Option.isSome_none,Bool.false_eq_true,if_false]at hg ⊢;rw[←hg];have:o<p:=by omega
  simp only[cG,List.getElem?_toArray];rw[List.append_assoc,List.getElem?_append_left (by simp;omega),List.getElem?_take,if_pos this,Array.getElem?_toList]
 ·rw[Sto.cB,if_pos rfl,hd]at hob;injection hob with hob
  subst hob;simp only[aj,List.length_map,List.length_set];refine .inr (.inr ⟨b,cap,_,q1,q2,q3,setRow_heap w b arr _ T' _ q4,?_,?_,?_,q8,(λh=>by cases h),q10,q11⟩)
  ·simp only[cG,List.size_toArray,List.length_append,List.length_take,List.length_drop,Array.length_toList];omega
  ·have hcs:=uT (I:=I) hcl f1;have key:((rs.set i.toNat r').map enc).flatten=A++(cG (enc (el rs i)) off ca)++B:=by
    rw[List.map_set,s3,hr]
   rw[key];rw[s1]at q6;obtain⟨u1,u2,e1,r1,r2⟩:=(cS _ _ _).1 q6;obtain⟨u3,u4,e2,r3,r4⟩:=(cS _ _ _).1 r1;have m1:=dQ _ _ r3;have m2:=dQ _ _ r4;have m3:=dQ _ _ r2;have e4:enc (el rs i)=(enc (el rs i)).take off++((enc (el rs i)).drop off):=(List.take_append_drop _ _).symm;rw[e4]at r4;obtain⟨u5,u6,e5,r5,r6⟩:=(cS _ _ _).1 r4;have m5:=dQ _ _ r5;have e6:(enc (el rs i)).drop off=((enc (el rs i)).drop off).take n++(enc (el rs i)).drop (off+n):=by
    rw[←List.drop_drop];exact(List.take_append_drop _ _).symm
   rw[e6]at r6;obtain⟨u7,u8,e7,r7,r8⟩:=(cS _ _ _).1 r6;have m7:=dQ _ _ r7;have ml5:u5.length=off:=by rw[m5,List.length_take];omega
   have ml7:u7.length=n:=by rw[m7,List.length_take,List.length_drop];omega
   have jT:(cG arr.toList p (ρ y).cells.toList).take (rs.length*sz)=u3++(u5++(ρ y).cells.toList++u8)++u2:=by
    have ha:arr.toList=(u3++(u5++(u7++u8))++u2)++arr.toList.drop (rs.length*sz):=by
     conv=>lhs;rw[←List.take_append_drop (rs.length*sz) arr.toList]
     rw[e1,e2,e5,e7]
    have hA:(u3++u5).length=p:=by rw[List.length_append,m1,ml5,s2,hp]
    have hl3:(ρ y).cells.toList.length=n:=by rw[l2,hn]
    have hsp:cG arr.toList p (ρ y).cells.toList=(u3++u5)++(ρ y).cells.toList++(u8++(u2++arr.toList.drop (rs.length*sz))):=by
     unfold cG;rw[hl3];have ha2:arr.toList=(u3++u5)++(u7++(u8++(u2++arr.toList.drop (rs.length*sz)))):=by
      conv=>lhs;rw[ha]
      simp only[List.append_assoc]
     have t1:arr.toList.take p=u3++u5:=by rw[ha2,←hA,List.take_left]
     have t2:arr.toList.drop (p+n)=u8++(u2++arr.toList.drop (rs.length*sz)):=by
      rw[←List.drop_drop]
      conv=>lhs;rw[ha2]
      rw[←hA,List.drop_left,←ml7,List.drop_left]
     rw[t1,t2]
    rw[hsp];have hlen:((u3++u5)++(ρ y).cells.toList++(u8++u2)).length=rs.length*sz:=by
     have h9:=congrArg List.length (e1.trans (by rw[e2,e5,e7]));simp only[List.length_take,List.length_append,Array.length_toList]at h9;simp only[List.length_append,hl3];omega
    have:(u3++u5)++(ρ y).cells.toList++(u8++(u2++arr.toList.drop (rs.length*sz)))=((u3++u5)++(ρ y).cells.toList++(u8++u2))++arr.toList.drop (rs.length*sz):=by simp
    rw[this,←hlen,List.take_left];simp
   rw[jT];refine(cS _ _ _).2 ⟨_,_,rfl,(cS _ _ _).2 ⟨_,_,rfl,r3,?_⟩,r2⟩;unfold cG;rw[hn];exact(cS _ _ _).2 ⟨_,_,rfl,(cS _ _ _).2 ⟨_,_,rfl,r5,hcs⟩,r8⟩
  ·intro e he;obtain⟨z,hz1,rfl⟩:=List.mem_map.1 he;rcases List.mem_or_eq_of_mem_set hz1 with hz1|rfl
   ·exact q7 _ (List.mem_map_of_mem hz1)
   ·exact hz'
end ops
end Go.Proofs.YtmnbolcmepihlaaGreat
namespace Go.Proofs.YtmnbolcmepihlaaGreat
set_option linter.all false
open Go
section
variable {P:Program}{w:World}{d:Nat}{xs ys:Array Value}{f:Field}{fs:List Field}{T off:Nat}{r:Bool}
theorem aki:(Op.eqFields d xs ys []).run P w=.ok true w:=rfl
theorem ad5{k k':IntKind}{a b:Int}(hf:(f.name== "_",f.type,f.offset)=(false,T,off))(hz:∀w,(isAgg T).run P w=.ok false w)(hT:P.underlying T=some (.int k'))(hx:xs[off]?=some (.int k a))(hy:ys[off]?=some (.int k b))
  (h:(Op.eqFields (d+1) xs ys fs).run P w=.ok r w):(Op.eqFields (d+1) xs ys (f::fs)).run P w=.ok (decide (a=b)&&r) w:=by
 simp only[Prod.mk.injEq]at hf;obtain⟨h1,h2,h3⟩:=hf;have h1:f.name≠ "_":=by simpa using h1
 simp only[Op.eqFields,h2,h3,if_pos h1];have px:(part T xs off).run P w=.ok (.int k a) w:=by simp[part,hz,Array.getElem!_eq_getD,Array.getD_eq_getD_getElem?,hx]
 have py:(part T ys off).run P w=.ok (.int k b) w:=by simp[part,hz,Array.getElem!_eq_getD,Array.getD_eq_getD_getElem?,hy]
 simp only[Sem.run_bind,px,py,Result.andThen_ok,run_equalIn_int w d T k k' a b hT];by_cases e:a=b
 ·simp[e,h]
 ·simp[e]
theorem yf{l:List Field}{x:Bool×Nat×Nat}{r:List (Bool×Nat×Nat)}(h:l.map (λf=>(f.name== "_",f.type,f.offset))=x::r):∃f t,l=f::t∧(f.name== "_",f.type,f.offset)=x∧t.map (λf=>(f.name== "_",f.type,f.offset))=r:=by
 cases l with
 |nil=>simp at h
 |cons f t=>simp only[List.map_cons,List.cons.injEq]at h;exact⟨f,t,rfl,h.1,h.2⟩
theorem aev{l:List Field}(h:l.map (λf=>(f.name== "_",f.type,f.offset))=[]):l=[]:=by simpa using h
end
theorem A.late{G:Gl}{c:Code}{Q:Exit→Env→Sto→Prop}{env:Env}{σ:Sto}(h:af G c (λe env σ=>∃bT σ2,aU G env σ bT σ2∧Q e bT σ2) env σ):af G c Q env σ:=by
 refine af.of λcx a w hr=>wp_mono (af.use h cx a w hr) ?_;rintro e a' w' ⟨env',σ',hr',bT,σ2,hw,hq⟩;exact⟨bT,σ2,hw.rel hr',hq⟩
theorem akj{α:Type}(enc:α→List AV)(h:∀r,(enc r).all AV.one=true)(l:List α):(l.map enc).flatten.all AV.one=true:=by
 induction l with
 |nil=>rfl
 |cons x r ih=>rw[List.map_cons,List.flatten_cons,List.all_append,h x,ih];rfl
theorem Z.slice{α:Type}{G:Gl}{o:Oper}{env:Env}{σ:Sto}{T E sz:Nat}{x:Operand}{f:Bool}{lo hi:Option Operand}(rs:List α)(enc:α→List AV)(a b:Nat)(h:o.op=.slice T x lo hi none)(hx:eT σ (env.ev x) (.lst f (rs.map enc)))(hT:SlS G.P T E sz)(hlen:∀r,(enc r).length=sz)
  (hlo:jC env.ev lo=(a:Int)) (hhi:pF env.ev rs.length hi=(b:Int)) (ilo:nZ env.ev lo) (ihi:nZ env.ev hi) (hab:a≤b∧b≤rs.length) (R:List Nat) (hR:∀σ':Sto,(∀d∈R,σ'.get d=σ.get d)→eT σ' (env.ev x) (.lst f (rs.map enc))) :
  Yields G o env.ev σ [] R (.lst false (((rs.take b).drop a).map enc)):=by
 have hhi:pF env.ev (rs.map enc).length hi=(b:Int):=by rw[List.length_map];exact hhi
 have:=Y.slice (G:=G) h hx hT (λe he=>by obtain⟨r,_,rfl⟩:=List.mem_map.1 he;exact hlen r) ilo ihi (by rw[hlo,hhi,List.length_map];omega) R hR;rw[hlo,hhi,Int.toNat_natCast,Int.toNat_natCast]at this
 rwa [List.map_drop,List.map_take]
theorem dA{P:Program}{T f off n FT:Nat}{ag:Bool}{fs:Array Field}(hu:P.underlying T=some (.struct fs))(hf:(fs[f]?).map (λg=>(g.type,g.offset))=some (FT,off))(ht:TyS P FT n ag)(hp:ag=false→n=1):cN P T f off n ag where
 pos:=hp
 run:=λcs w h=>by
  cases hg:fs[f]? with
  |none=>rw[hg]at hf;cases hf
  |some g=>
   rw[hg]at hf;simp only[Option.map_some,Option.some.injEq,Prod.mk.injEq]at hf;simp only[Instr.field,Sem.run_bind,run_underlying hu,Result.andThen_ok,hg,hf.1,hf.2,asAgg,Sem.run_pure];cases ag with
   |true=>simp[part,ht.agg,ht.size]
   |false=>
    have:=hp rfl;subst this;simp[part,ht.agg,Array.getD_eq_getD_getElem?,Array.getElem?_eq_getElem (show off<cs.size by omega)]
end Go.Proofs.YtmnbolcmepihlaaGreat
namespace Go.Proofs.YtmnbolcmepihlaaGreat
set_option linter.all false
open Go
section win
variable {G:Gl}{o:Oper}{ev:Operand→AV}{σ:Sto}
theorem aj.ap8{cx:Cx}{I:Imm}{β:Nat→Value}{w:World}{d T sz k:Nat}{xs:List (List AV)}(h:aj cx I β w d (.slice T sz xs k true))(hk:k=xs.length):aj cx I β w d (.win T sz xs):=by
 simp only[aj]at h ⊢;rcases h with q|⟨q,q2,_⟩|⟨b,cap,arr,q1,q2,q3,q4,q5,q6,q7,q8,q9,q10,q11⟩
 ·exact .inl q
 ·exact .inr (.inl ⟨q,q2⟩)
 ·refine .inr (.inr ⟨b,0,cap,arr,q1,q2,q3,q4,λ_=>by omega,?_,q7,λ_ o ho=>q10 o (by rw[hk];omega),q11⟩);refine l9 xs 0 _ q6 λj v hv=>?_;rw[Nat.zero_add];rw[List.getElem?_take]at hv;split at hv
  ·rename_i hlt;rw[q9 trivial j hlt];simpa using hv
  ·cases hv
theorem aU.win{env:Env}{d T sz k:Nat}{xs:List (List AV)}(hd:σ.get d=some (.slice T sz xs k true))(hk:k=xs.length):aU G env σ env (σ.set d (.win T sz xs)):=λcx I β a w h h'=>by
 refine⟨I,β,{h with bB:=λx ob hx=>?_,bQ:=λx y hx hy=>?_},h'⟩
 ·rw[Sto.cB]at hx;split at hx
  ·rename_i e;subst e;rw[hd]at hx;cases hx;exact(h.bB _ _ hd).ap8 hk
  ·exact h.bB x ob hx
 ·have:∀x,(Sto.get (σ.set d (.win T sz xs)) x).isSome→(σ.get x).isSome:=λx hx=>by
   rw[Sto.cB]at hx;split at hx
   ·rename_i e;subst e;rw[hd];rfl
   ·exact hx
  exact h.bQ x y (this x hx) (this y hy)
theorem D.amt{T E sz T' d d2:Nat}{x:Operand}{lo:Option Operand}{xs:List (List AV)}(h:o.op=.slice T x lo none none)(hx:ev x=.own d)(hd:σ.get d=some (.win T' sz xs))(hT:SlS G.P T E sz)(ilo:nZ ev lo)
  (hlo:0≤jC ev lo∧jC ev lo≤xs.length) (hi:G.ids.contains d2=false) (hc:(σ.minus [d]).clean [d2].contains=true) :
  dU G o ev σ [d,d2] [d2] (λr σ'=>r=.own d2∧σ'=(d2,.win T' sz (xs.drop (jC ev lo).toNat))::σ.minus [d]):=by
 intro cx I β w ρ hw hop;have hs1:=hop x (by simp[h,Op.operands]);rw[hx]at hs1;simp only[Rep]at hs1;obtain⟨hs1,hs2⟩:=hs1;generalize hl:jC ev lo=l at hlo ⊢;have hw1:aX G cx I β (σ.minus [d]) w:=hw.sub λx ob hx=>by rw[Sto.dn]at hx;split at hx<;>first|cases hx|exact hx
 have hw2:=hw1.ov (mat:=[d2]) (σ2:=(d2,.win T' sz (xs.drop l.toNat))::σ.minus [d]) (env:=[]) ⟨λx hx=>by rw[Sto.aK,if_neg (λe=>hx (by simp[e]))],λx hx=>by simp at hx;subst hx;simpa using hi,rfl,hc,λx hx dm n h=>by simp at hx;subst hx;rw[Sto.aK,if_pos rfl]at h;cases h⟩;have dN:∀x,x≠d2→dP β [d2] x=β x:=λx hx=>by simp[dP,hx]
 have ho:=hw.bB d _ hd;simp only[aj]at ho;have run:∀(a:Option Addr) (c:Nat),ρ x=.slice a xs.length c→xs.length≤c→(execOp ρ o).run G.P w=.ok (.value (.slice (if c=l.toNat then a else a.map (·.add (l.toNat*sz))) (xs.length-l.toNat) (c-l.toNat))) w:=by
  intro a c h1 h2;have e1:(Instr.sliceBounds true xs.length c (lo.map ρ) none none).run G.P w=.ok (l.toNat,xs.length,c) w:=by
   cases lo with
   |none=>
    simp only[jC]at hl;subst hl;simp[Instr.sliceBounds]
   |some y=>
    obtain⟨k,n,q1,q2⟩:=uP ilo (hop y (by simp[h,Op.operands]));simp only[jC,q1]at hl;subst hl;have:=run_sliceBound (P:=G.P) (k:=k) (code:=.sliceB) (w:=w) hlo;simp[Instr.sliceBounds,q2,this]
  have e2:∀w,(underlying T).run G.P w=.ok (.slice E) w:=λw=>run_underlying hT.und w;simp only[execOp,h,Instr.sliceAt,Instr.slice,h1,Sem.run_bind,e2,Result.andThen_ok,e1,hT.size,Sem.run_pure,Option.map_none]
 have fin:∀(v':Value),(execOp ρ o).run G.P w=.ok (.value v') w→fP v'=true→(∀b∈bY v',b∈bY (β d))→aj cx I (en β d2 v') w d2 (.win T' sz (xs.drop l.toNat))→
   gK G.P (λv w'=>∃(av:AV) (σ':Sto) (I':Imm) (β':Nat→Value),(av=.own d2∧σ'=(d2,br.win T' sz (xs.drop l.toNat))::σ.minus [d])∧Rep I' β' av v∧aX G cx I' β' σ' w'∧aQ I I'∧(∀x,x∉[d2]→β' x=β x)∧(∀x,x∉[d,d2]→σ'.get x=σ.get x)) ((execOp ρ o).run G.P w):=by
  intro v' hrun hsl hbd hob;rw[hrun];refine⟨.own d2,_,I,en β d2 v',⟨rfl,rfl⟩,by simp only[Rep,bO,hsl,and_self],?_,aQ.refl I,λx hx=>cc β v' (by simpa using hx),λx hx=>?_⟩
  ·have hcl:∀x ob,(σ.minus [d]).get x=some ob→x≠d2∧fV [d2].contains ob=false:=λx ob hx=>by
    obtain⟨c1,c2⟩:=Sto.cm hc x ob hx;exact⟨by simpa using c1,c2⟩
   have hb0:∀x,[d2].contains x=false→en β d2 v' x=β x:=λx hx=>cc β v' (by simpa using hx);refine{hw1 with bB:=λx ob hx=>?_,bQ:=λx y hx hy hne b=>?_,keep:=λx hx=>?_}
   ·rw[Sto.aK]at hx;split at hx
    ·rename_i e;subst e;cases hx;exact hob
    ·obtain⟨c1,c2⟩:=Sto.cm hc x ob hx;exact(hw1.bB x ob hx).beta hb0 c1 c2
   ·have side:∀x,(Sto.get ((d2,br.win T' sz (xs.drop l.toNat))::σ.minus [d]) x).isSome→x≠d2→(σ.get x).isSome∧x≠d:=λx hx hn=>by
     rw[Sto.aK,if_neg (Ne.symm hn),Sto.dn]at hx;split at hx
     ·cases hx
     ·rename_i hm;exact⟨hx,by simpa using hm⟩
    by_cases hx2:x=d2
    ·subst hx2;have hy2:y≠x:=λe=>hne e.symm;obtain⟨s1,s2⟩:=side y hy hy2;rw[bO,cc β v' hy2];intro e1 e2;exact hw.bQ y d s1 (by rw[hd];rfl) s2 b e2 (hbd b e1)
    ·obtain⟨s1,s2⟩:=side x hx hx2;rw[cc β v' hx2];by_cases hy2:y=d2
     ·subst hy2;rw[bO];intro e1 e2;exact hw.bQ x d s1 (by rw[hd];rfl) s2 b e1 (hbd b e2)
     ·obtain⟨t1,t2⟩:=side y hy hy2;rw[cc β v' hy2];exact hw.bQ x y s1 t1 hne b
   ·have:x≠d2:=λe=>by subst e;rw[←Bool.not_eq_true]at hi;exact hi (by simpa using hx)
    rw[cc β v' this];exact hw.keep x hx
  ·have hx:x≠d∧x≠d2:=by simpa using hx
   rw[Sto.aK,if_neg (Ne.symm hx.2),Sto.dn,if_neg (by simpa using hx.1)]
 rcases ho with q|⟨q,rfl⟩|⟨b,o0,cap,arr,q1,q2,q3,q4,q5,q6,q7,q8,q9⟩
 ·rw[q]at hs1;rw[hs1]at hs2;simp[fP]at hs2
 ·have hl0:l=0:=by simp at hlo;omega
  subst hl0;refine fin _ (run none 0 (by rw[hs1,q];rfl) (by simp)) rfl (by simp[bY,blk]) ?_;simp only[aj,bO];exact .inr (.inl ⟨by simp,by simp⟩)
 ·have hln:l.toNat≤xs.length:=by omega
  refine fin _ (run _ cap (by rw[hs1,q1]) q2) rfl ?_ ?_
  ·intro b' hb';rw[q1];split at hb'
   ·exact hb'
   ·simp only[Option.map_some,dY]at hb';exact hb'
  ·simp only[aj,bO];have hlen:(xs.drop l.toNat).length=xs.length-l.toNat:=by simp
   refine .inr (.inr ?_);by_cases hcl:cap=l.toNat
   ·have hnil:xs.drop l.toNat=[]:=List.drop_eq_nil_of_le (by omega);refine⟨b,o0,cap-l.toNat,arr,by rw[if_pos hcl,hlen],by rw[hlen];omega,by omega,q4,λhh=>by omega,by rw[hnil];trivial,by rw[hnil];simp,λhh=>by omega,q9⟩
   ·refine⟨b,o0+l.toNat*sz,cap-l.toNat,arr,?_,by rw[hlen];omega,by omega,q4,λhh=>?_,pE _ _ _ q7 q6,λe he=>q7 e (List.mem_of_mem_drop he),λhh o ho=>?_,q9⟩
    ·rw[if_neg hcl,hlen];simp[dY]
    ·rw[hlen]at hh;have:=q5 (by omega);have e:o0+l.toNat*sz+(cap-l.toNat)*sz=o0+cap*sz:=by
      rw[Nat.add_assoc,←Nat.add_mul];congr 2;omega
     omega
    ·rw[hlen]at hh ho;refine q8 (by omega) o ?_;have e:o0+l.toNat*sz+(xs.length-l.toNat)*sz=o0+xs.length*sz:=by
      rw[Nat.add_assoc,←Nat.add_mul];congr 2;omega
     omega
theorem uc{I:Imm}{b sz:Nat}:∀{xs ys:List (List AV)} {o:Nat},(∀e∈xs,e.length=sz)→(dg I b (xs++ys) o↔dg I b xs o∧dg I b ys (o+xs.length*sz))
 |[],ys,o,_=>by simp[dg]
 |x::r,ys,o,h=>by
  simp only[List.cons_append,dg,List.length_cons];rw[uc (λe he=>h e (by simp[he])),h x (by simp),Nat.add_mul,Nat.one_mul,and_assoc,Nat.add_assoc,Nat.add_comm sz]
theorem wh{P:Program}(w:World)(t ty e:TypeId)(i:TypeInfo)(ht:P.underlying t=some (.slice e))(hi:P.info? e=some i)
  (g off sLen sCap:Nat) (cur:Array Value) (hg:w.heap[g]?=some (.cells cur e (0,0)))
  (a:Addr) (m c:Nat) (news:List Value) (hl:news.length=m*i.size) (hnews:∀j u,news[j]?=some u→w.cell? (a.add j)=some u) (h1:∀u∈news,u.oneCell'=true)
  (hroom:sLen+m≤sCap) (hfit:off+sLen*i.size+news.length≤cur.size) :
  (Builtin.append_ #[t,t] ty #[.slice (some ⟨g,off,none⟩) sLen sCap,.slice (some a) m c]).run P w =
   .ok (.slice (some ⟨g,off,none⟩) (sLen+m) sCap) (w.setRow g (cur.toList.take (off+sLen*i.size)++news++cur.toList.drop (off+sLen*i.size+news.length)).toArray):=by
 have hf:=run_firstCells_some (P:=P) w i.size m a m c news hl hnews;have hst:=run_storeCells_at P g (off+sLen*i.size) e news 0 cur w hg (by simpa using hfit) h1;simp only[Nat.add_zero]at hst;simp[Builtin.append_,run_underlying ht,Go.sizeOf,typeInfo,hi,Builtin.lenOf,hroom,hf,dY,hst]
theorem D.akk{s x:Operand}{T E sz bytes d d2 T':Nat}{f:Bool}{xs ys:List (List AV)}(h:o.op=.call ⟨.builtin .append,#[s,x],#[T,T]⟩)(hs:ev s=.own d)(hd:σ.get d=some (.win T' sz xs))(hx:eT σ (ev x) (.lst f ys))(hT:gL G.P T E sz bytes)(hE:T'=E)
  (hys:∀e∈ys,e.length=sz) (h1:ys.flatten.all AV.one=true) (hb:(xs.length+ys.length)*bytes≤140737488355328) (h63:xs.length+ys.length≤maxLen) (hi:G.ids.contains d2=false)
  (hc:(σ.minus [d]).clean [d2].contains=true) :
  dU G o ev σ [d,d2] [d2] (λr σ'=>r=.own d2∧σ'=(d2,.win T' sz (xs++ys))::σ.minus [d]):=by
 subst hE;intro cx I β w ρ hw hop;have hs1:=hop s (by simp[h,Op.operands,Call.operands]);rw[hs]at hs1;simp only[Rep]at hs1;obtain⟨hs1,hs2⟩:=hs1;have hx1:=hx.rep hw _ (hop x (by simp[h,Op.operands,Call.operands]));simp only[Rep,aB]at hx1;obtain⟨a,c,hx1,hx2,hx3,_,hx4⟩:=hx1;obtain⟨i,z,hi1,hz1,hz2,hz3,hz4⟩:=hT.info;have hnews:∃news:List Value,aS I ys.flatten news∧(ys.length=0∨∃ad:Addr,a=some ad∧∀j u,news[j]?=some u→w.cell? (ad.add j)=some u):=by
  rcases hx4 with rfl|⟨b,o,rfl,hr⟩
  ·exact⟨[],rfl,.inl rfl⟩
  ·obtain⟨vs,q1,q2⟩:=lG hw.good ys o hr;exact⟨vs,q1,.inr ⟨_,rfl,λj u hu=>by rw[dY];exact q2 j u hu⟩⟩
 obtain⟨news,hn1,hn2⟩:=hnews;have hnl:news.length=ys.length*sz:=by rw[dQ _ _ hn1];exact jm ys hys
 have hone:=abi _ _ h1 hn1;have hsm:xs.length+ys.length≤9223372036854775807:=by simp only[maxLen]at h63;omega
 have hw1:aX G cx I β (σ.minus [d]) w:=hw.sub λx ob hx=>by rw[Sto.dn]at hx;split at hx<;>first|cases hx|exact hx
 have hw2:=hw1.ov (mat:=[d2]) (σ2:=(d2,.win T' sz (xs++ys))::σ.minus [d]) (env:=[]) ⟨λx hx=>by rw[Sto.aK,if_neg (λe=>hx (by simp[e]))],λx hx=>by simp at hx;subst hx;simpa using hi,rfl,hc,λx hx dm n h=>by simp at hx;subst hx;rw[Sto.aK,if_pos rfl]at h;cases h⟩;have dN:∀x,x≠d2→dP β [d2] x=β x:=λx hx=>by simp[dP,hx]
 have fin:∀(v':Value) (w':World) (b:Nat) (I':Imm),(execOp ρ o).run G.P w=.ok (.value v') w'→fP v'=true→Kept w w' b→Place cx b→(∀x,((σ.minus [d]).get x).isSome→b∉bY (β x))→
   aQ I I'→(∀b',b'≠b→∀o,I' b' o=I b' o)→
   (∀(o:Nat) v,I' b o=some v→w'.cell? ⟨b,o,none⟩=some v)→I' b none=none→(blk v'=some b∨bY v'=[])→aj cx I' (en β d2 v') w' d2 (.win T' sz (xs++ys))→
   gK G.P (λv w'=>∃(av:AV) (σ':Sto) (I':Imm) (β':Nat→Value),(av=.own d2∧σ'=(d2,br.win T' sz (xs++ys))::σ.minus [d])∧Rep I' β' av v∧aX G cx I' β' σ' w'∧aQ I I'∧(∀x,x∉[d2]→β' x=β x)∧(∀x,x∉[d,d2]→σ'.get x=σ.get x)) ((execOp ρ o).run G.P w):=by
  intro v' w' b I' hrun hsl hk hp hfree hle hI uO hnm hbd hob;rw[hrun];refine⟨.own d2,_,I',en β d2 v',⟨rfl,rfl⟩,by simp only[Rep,bO,hsl,and_self],?_,hle,λx hx=>cc β v' (by simpa using hx),λx hx=>?_⟩
  ·refine hw2.turn (d:=d2) hk hp (λ_ _=>rfl) (λx hx hsm e=>?_) hle hI uO hnm (λx hx=>by rw[cc β v' hx,dN x hx]) (.inl (by simpa using hi)) (λx=>?_) (by rw[bO];exact hbd) (λob mb=>?_)
   ·rw[Sto.aK,if_neg (Ne.symm hx)]at hsm;rw[dN x hx]at e;exact hfree x hsm e
   ·by_cases hx:x=d2
    ·left;simp[dP,hx]
    ·right;rw[cc β v' hx,dN x hx]
   ·rw[Sto.aK,if_pos rfl]at mb;injection mb with mb
    subst mb;exact hob
  ·have hx:x≠d∧x≠d2:=by simpa using hx
   rw[Sto.aK,if_neg (Ne.symm hx.2),Sto.dn,if_neg (by simpa using hx.1)]
 have other:∀b,blk (β d)=some b→∀x,((σ.minus [d]).get x).isSome→b∉bY (β x):=λb hbd x hx e=>by
  rw[Sto.dn]at hx;split at hx
  ·cases hx
  ·rename_i hxd;exact hw.bQ x d hx (by rw[hd];rfl) (by simpa using hxd) b e (cR hbd)
 have fresh:∀x,((σ.minus [d]).get x).isSome→w.heap.size∉bY (β x):=λx hx e=>by
  obtain⟨ob,hx⟩:=Option.isSome_iff_exists.1 hx;exact absurd (hw1.lE hx e) (by omega)
 have mB:∀old,old<xs.length+ys.length→xs.length+ys.length≤grownCap w (xs.length+ys.length) old T'∧grownCap w (xs.length+ys.length) old T'≤maxLen:=λold _=>⟨grownCap_ge _ _ _ _,grownCap_le_maxLen _ _ _ _ h63⟩;have mC:∀ob,Kept w (w.drew.alloc ob) w.heap.size:=λob=>(Kept.alloc w.drew ob).drew
 have afR:∀(olds:List Value) (cap:Nat),aS I xs.flatten olds→olds.length=xs.length*sz→(∀e∈xs,e.length=sz)→xs.length+ys.length≤cap→cap≤maxLen→
   (execOp ρ o).run G.P w=.ok (.value (.slice (some ⟨w.heap.size,0,none⟩) (xs.length+ys.length) cap)) (w.drew.alloc (.cells (olds.toArray++news.toArray++Builtin.zeroCells z.cells (cap-(xs.length+ys.length))) T'))→
   gK G.P (λv w'=>∃(av:AV) (σ':Sto) (I':Imm) (β':Nat→Value),(av=.own d2∧σ'=(d2,br.win T' sz (xs++ys))::σ.minus [d])∧Rep I' β' av v∧aX G cx I' β' σ' w'∧aQ I I'∧(∀x,x∉[d2]→β' x=β x)∧(∀x,x∉[d,d2]→σ'.get x=σ.get x)) ((execOp ρ o).run G.P w):=by
  intro olds cap ho1 ho2 ho3 hc1 hc2 hrun;have hlen:(olds++news).length=(xs++ys).length*sz:=by rw[List.length_append,List.length_append,ho2,hnl,Nat.add_mul]
  let I':Imm:=I.on λb o=>if b=w.heap.size then(olds++news)[o]? else I b o
  have hle:aQ I I':=λb o v hv=>by
   cases o with
   |none=>exact hv
   |some o=>
   show(if b=w.heap.size then _ else I b o)=some v;split
   ·rename_i e;subst e;rw[hw.ct (Nat.le_refl _)]at hv;cases hv
   ·exact hv
  have aex:∀o:Nat,I' w.heap.size o=(olds++news)[o]?:=λo=>by show(if _ then _ else _)=_;rw[if_pos rfl]
  have akl:(olds.toArray++news.toArray++Builtin.zeroCells z.cells (cap-(xs.length+ys.length))).toList=(olds++news)++(Builtin.zeroCells z.cells (cap-(xs.length+ys.length))).toList:=by simp
  refine fin _ _ w.heap.size I' hrun rfl (mC _) (.inl hw.size) fresh hle (λb' hb' o=>by cases o with|none=>rfl|some o=>show(if _ then _ else _)=_;rw[if_neg hb']) (λo v hv=>?_) (hw.ct (Nat.le_refl _) none) (.inl rfl) ?_
  ·rw[aex]at hv;have hnew:=heap_alloc_new w.drew (.cells (olds.toArray++news.toArray++Builtin.zeroCells z.cells (cap-(xs.length+ys.length))) T');have hnew:(w.drew.alloc (.cells (olds.toArray++news.toArray++Builtin.zeroCells z.cells (cap-(xs.length+ys.length))) T')).heap[w.heap.size]?=some (.cells (olds.toArray++news.toArray++Builtin.zeroCells z.cells (cap-(xs.length+ys.length))) T' (0,0)):=hnew;simp only[World.cell?,hnew];have hlt:=(List.getElem?_eq_some_iff.1 hv).1;have:((olds.toArray++news.toArray++Builtin.zeroCells z.cells (cap-(xs.length+ys.length))).toList)[o]?=some v:=by rw[akl,List.getElem?_append_left hlt];exact hv
   rw[Array.getElem?_toList]at this;exact this
  ·simp only[aj,bO];refine .inr (.inr ⟨w.heap.size,0,cap,_,by rw[List.length_append],by rw[List.length_append];exact hc1,hc2,heap_alloc_new w.drew _,λ_=>?_,?_,?_,λ_ o ho=>?_,.inl hw.size⟩)
   ·simp only[Array.size_append,List.size_toArray,size_zeroCells,hz4,ho2,hnl,←Nat.add_mul];rw[Nat.zero_add];refine Nat.mul_le_mul_right _ ?_;omega
   ·refine l9 _ 0 (olds++news) ?_ λj v hv=>by rw[Nat.zero_add,aex];exact hv
    rw[List.flatten_append];exact ef hle _ _ ((cS _ _ _).2 ⟨_,_,rfl,ho1,hn1⟩)
   ·intro e he;rcases List.mem_append.1 he with he|he
    ·exact ho3 e he
    ·exact hys e he
   ·rw[aex,List.getElem?_eq_none];rw[hlen];omega
 have ho:=hw.bB d _ hd;simp only[aj]at ho;rcases ho with q|⟨q,rfl⟩|⟨b,o0,cap,arr,q1,q2,q3,q4,q5,q6,q7,q8,q9⟩
 ·rw[q]at hs1;rw[hs1]at hs2;simp[fP]at hs2
 ·
  rcases Nat.eq_zero_or_pos ys.length with hm|hm
  ·have hy:ys=[]:=List.eq_nil_of_length_eq_zero hm;subst hy;refine fin (.slice none 0 0) w w.heap.size I (dz h ?_) rfl ⟨λ_ _ _=>rfl,Nat.le_refl _,rfl,rfl,rfl,Nat.le_refl _⟩ (.inl hw.size) fresh (aQ.refl I) (λ_ _ _=>rfl) (λo v hv=>by rw[hw.ct (Nat.le_refl _)]at hv;cases hv) (hw.ct (Nat.le_refl _) none) (.inr rfl) ?_
   ·rw[hs1,hx1,q];cases a<;>simp[Builtin.append_,run_underlying hT.und,Go.sizeOf,typeInfo,hi1,Builtin.lenOf,Builtin.firstCells,loadCells,loadCellsFrom]
   ·simp only[aj,bO];exact .inr (.inl ⟨trivial,rfl⟩)
  ·obtain⟨ad,rfl,hcells⟩:=hn2.resolve_left (by omega);have hr:=run_append_nil (P:=G.P) w T o.type T' i z hT.und hi1 hz1 ad ys.length c news (by rw[hz2];exact hnl) hcells hm (by simp at hsm;omega) (by simp at hb;rw[hz3];omega);obtain⟨g1,g2⟩:=mB 0 (by simp;exact hm);simp only[List.length_nil,Nat.zero_add]at g1 g2;have:=afR [] (grownCap w ys.length 0 T') rfl (by simp) (by simp) (by simpa using g1) g2;refine this ?_;have hr2:=hr;rw[←hx1,show(Value.slice none 0 0)=ρ s by rw[hs1,q]]at hr2;have:=dz h hr2;simpa using this
 ·have hbd:blk (β d)=some b:=by rw[q1];rfl
  by_cases hroom:xs.length+ys.length≤cap
  ·rcases Nat.eq_zero_or_pos ys.length with hm|hm
   ·have hy:ys=[]:=List.eq_nil_of_length_eq_zero hm;subst hy;refine fin (.slice (some ⟨b,o0,none⟩) xs.length cap) w b I (dz h ?_) rfl ⟨λ_ _ _=>rfl,Nat.le_refl _,rfl,rfl,rfl,Nat.le_refl _⟩ q9 (other b hbd) (aQ.refl I) (λ_ _ _=>rfl) (λo v hv=>hw.good b o v hv) (hw.gN q4) (.inl rfl) ?_
    ·rw[hs1,hx1,q1];cases a<;>simp[Builtin.append_,run_underlying hT.und,Go.sizeOf,typeInfo,hi1,Builtin.lenOf,Builtin.firstCells,loadCells,loadCellsFrom,q2,storeCells]
    ·simp only[aj,bO,List.append_nil];exact .inr (.inr ⟨b,o0,cap,arr,rfl,q2,q3,q4,q5,q6,q7,q8,q9⟩)
   ·obtain⟨ad,rfl,hcells⟩:=hn2.resolve_left (by omega);have hlt:xs.length<cap:=by omega
    have hsz:=q5 hlt;have hfit:o0+xs.length*i.size+news.length≤arr.size:=by
     rw[hz2,hnl,Nat.add_assoc,←Nat.add_mul];have:=Nat.mul_le_mul_right sz hroom;omega
    have hr:=wh (P:=G.P) w T o.type T' i hT.und hi1 b o0 xs.length cap arr q4 ad ys.length c news (by rw[hz2];exact hnl) hcells hone hroom hfit;rw[hz2]at hr hfit;have hal:o0+xs.length*sz≤arr.toList.length:=by simp only[Array.length_toList];omega
    let I':Imm:=I.on λb' o=>if b'=b∧o0+xs.length*sz≤o∧o<o0+xs.length*sz+news.length then news[o-(o0+xs.length*sz)]? else I b' o
    have hfree:=q8 hlt
    have hle:aQ I I':=λb' o v hv=>by
     cases o with
     |none=>exact hv
     |some o=>
     show(if b'=b∧_∧_ then _ else I b' o)=some v;split
     ·rename_i e;obtain⟨e1,e2,_⟩:=e;subst e1;rw[hfree o e2]at hv;cases hv
     ·exact hv
    have jT:∀o,((arr.toList.take (o0+xs.length*sz)++news++arr.toList.drop (o0+xs.length*sz+news.length)).toArray)[o]?=if o<o0+xs.length*sz then arr[o]? else if o<o0+xs.length*sz+news.length then news[o-(o0+xs.length*sz)]? else arr[o]?:=by
     intro o;have htl:(arr.toList.take (o0+xs.length*sz)).length=o0+xs.length*sz:=by rw[List.length_take,Nat.min_eq_left hal]
     rw[List.getElem?_toArray];by_cases c1:o<o0+xs.length*sz
     ·rw[if_pos c1,List.append_assoc,List.getElem?_append_left (by omega),List.getElem?_take,if_pos c1,Array.getElem?_toList]
     ·rw[if_neg c1];by_cases c2:o<o0+xs.length*sz+news.length
      ·rw[if_pos c2,List.getElem?_append_left (by rw[List.length_append,htl];omega),List.getElem?_append_right (by omega),htl]
      ·rw[if_neg c2,List.getElem?_append_right (by rw[List.length_append,htl];omega),List.length_append,htl,List.getElem?_drop,Array.getElem?_toList];congr 1;omega
    refine fin _ _ b I' (dz h (by rw[hs1,hx1,q1];exact hr)) rfl (Kept.setRow w b _) q9 (other b hbd) hle (λb' hb' o=>by cases o with|none=>rfl|some o=>show(if _ then _ else _)=_;rw[if_neg (λe=>hb' e.1)]) (λo v hv=>?_) (hw.gN q4) (.inl rfl) ?_
    ·simp only[World.cell?,setRow_heap w b arr _ T' _ q4];have:((arr.toList.take (o0+xs.length*sz)++news++arr.toList.drop (o0+xs.length*sz+news.length)).toArray)[o]?=some v:=by
      rw[jT]
      change (if b=b∧o0+xs.length*sz≤o∧o<o0+xs.length*sz+news.length then news[o-(o0+xs.length*sz)]? else I b o)=some v at hv
      split at hv
      ·rename_i e;rw[if_neg (by omega),if_pos e.2.2];exact hv
      ·rename_i e;have hg:=hw.good b o v hv;simp only[World.cell?,q4]at hg;have hg:arr[o]?=some v:=by simpa using hg
       split
       ·exact hg
       ·split
        ·rename_i c1 c2;exact absurd ⟨rfl,by omega,c2⟩ e
        ·exact hg
     simpa using this
    ·simp only[aj,bO];refine .inr (.inr ⟨b,o0,cap,_,by rw[List.length_append],by rw[List.length_append];exact hroom,q3,setRow_heap w b arr _ T' _ q4,λ_=>?_,?_,?_,λhh o ho=>?_,q9⟩)
     ·have:(arr.toList.take (o0+xs.length*sz)++news++arr.toList.drop (o0+xs.length*sz+news.length)).length=arr.toList.length:=by
       simp only[List.length_append,List.length_take,List.length_drop];rw[Nat.min_eq_left hal];simp only[Array.length_toList]at hal ⊢;omega
      simp only[List.size_toArray,this,Array.length_toList];exact hsz
     ·rw[uc (λe he=>q7 e he)];refine⟨jy hle _ _ _ q6,?_⟩;refine l9 ys _ news (ef hle _ _ hn1) λj v hv=>?_;have hj:=(List.getElem?_eq_some_iff.1 hv).1;show(if b=b∧_∧_ then _ else _)=_;rw[if_pos ⟨rfl,by omega,by omega⟩,show o0+xs.length*sz+j-(o0+xs.length*sz)=j by omega];exact hv
     ·intro e he;rcases List.mem_append.1 he with he|he
      ·exact q7 e he
      ·exact hys e he
     ·rw[List.length_append,Nat.add_mul]at ho;show(if b=b∧_∧_ then _ else _)=_;rw[if_neg (by rw[hnl];omega)];exact hfree o (by omega)
  ·
   have hm:0<ys.length:=by omega
   obtain⟨ad,rfl,hcells⟩:=hn2.resolve_left (by omega);obtain⟨olds,o1,o2⟩:=lG hw.good xs o0 q6;have hol:olds.length=xs.length*sz:=by rw[dQ _ _ o1];exact jm xs q7
   have hr:=run_append_grow (P:=G.P) w T o.type T' i z hT.und hi1 hz1 ⟨b,o0,none⟩ xs.length cap olds (by rw[hz2];exact hol) (λj v hv=>by rw[dY];exact o2 j v hv) ad ys.length c news (by rw[hz2];exact hnl) hcells (by omega) (by omega) (growslice_fits (by omega) (by rw[hz3];exact hb));obtain⟨g1,g2⟩:=mB cap (by omega);exact afR _ _ o1 hol q7 g1 g2 (dz h (by rw[hs1,hx1,q1];exact hr))
def xN(d:Nat)(xs:List (List AV))(ev:Operand→AV)(x:Operand):AV:=match ev x with
 |.own d'=>bif Nat.beq d' d then .lst false xs else .own d'
 |a=>a
theorem abn{d:Nat}{xs:List (List AV)}{ev:Operand→AV}{x:Operand}(h:ev x=.own d):xN d xs ev x=.lst false xs:=by simp[xN,h]
theorem afS{d:Nat}{xs:List (List AV)}{ev:Operand→AV}{x:Operand}{k:IntKind}{n:Int}(h:ev x=.int k n):xN d xs ev x=.int k n:=by simp[xN,h]
theorem Yields.win{G:Gl}{o:Oper}{ev:Operand→AV}{σ:Sto}{av:AV}{d T sz:Nat}{xs:List (List AV)}(hd:σ.get d=some (.win T sz xs))(h:Yields G o (xN d xs ev) σ [] [] av):Yields G o ev σ [] [d] av:=
 λσ' cx I β w ρ hR hw hm hop=>h σ' cx I β w ρ (λx hx=>by cases hx) hw hm λx hx=>by
  have h0:=hop x hx;unfold xN;split
  ·rename_i d' he;rw[he]at h0;cases hb:Nat.beq d' d with
   |false=>exact h0
   |true=>
    have:=Nat.eq_of_beq_eq_true hb;subst this;exact hw.win (by rw[hR _ (by simp)];exact hd) h0
  ·exact h0
end win
def snap(w:World):Imm:=λb o=>match o with
 |some o=>w.cell? ⟨b,o,none⟩
 |none=>match w.heap[b]? with
  |some (.map es clock)=>some (lg es clock)
  |_=>none
variable {w:World}
theorem qL(b:Nat)(o:Nat)(v:Value)(h:snap w b o=some v):w.cell? ⟨b,o,none⟩=some v:=h
theorem pJ(b:Nat)(v:Value)(h:snap w b none=some v):∃es clock,w.heap[b]?=some (.map es clock)∧v=lg es clock:=by
 simp only[snap]at h;split at h
 ·rename_i es clock hb;cases h;exact⟨es,clock,hb,rfl⟩
 ·cases h
variable {I:Imm}{cx:Cx}{β:Nat→Value}
theorem aX.afT{G:Gl}{σ:Sto}(hw:aX G cx I β σ w):aQ I (snap w):=λb o v hv=>by
 cases o with
 |some o=>exact hw.good b o v hv
 |none=>
  obtain⟨es,clock,h1,rfl⟩:=hw.dO b v hv;simp only[snap,h1]
theorem aX.amu{G:Gl}{σ:Sto}(hw:aX G cx I β σ w){b:Nat}{o:Option Nat}{v:Value}(hv:I b o=some v):b<w.heap.size:=by
 rcases Nat.lt_or_ge b w.heap.size with h|h
 ·exact h
 ·rw[hw.ct h o]at hv;cases hv
end Go.Proofs.YtmnbolcmepihlaaGreat
