/- A part of the proof; the last text says of what. No condition but those that stand in each. -/
import Derived.Test.YtemmkpdjmgafoaaGreatDoorZ7
import GoSem.Extern.BytealgCompare
import Derived.Lib.Strings
namespace Go.Proofs.YtemmkpdjmgafoaaGreatDoor
set_option linter.all false
open Go
section
def M1{α σ β:Type}{B:Int->α->(σ->Option β)->σ->Option β}{K:σ->Option β}{L:List α}(g:α->Bool)(p:α->α->Bool)(a:Option β)(e:∀x a4 s,B ((0:Nat):Int) x a4 s=bif g x then a4 s else a)
  (d:∀(j:Nat) x y r q s a4,L=q++y::x::r->j=q.length+1->B (j:Int) x a4 s=bif g x&&p y x then a4 s else a) (s:σ):bC L 0 B K s=bif L.all g&&iX p L then K s else a:=by
 have f:∀(r q:List α) (y:α) (s:σ),L=q++y::r->bC r (q.length+1) B K s=bif r.all g&&iX p (y::r)then K s else a:=by
  intro r;induction r with
  |nil=>intro q y s _;rfl
  |cons x r c=>
   intro q y s b;simp only[bC];rw[d (q.length+1) x y r q s _ b rfl];have:=c (q++[y]) x s (by simpa using b);simp only[dF,fW,hP]at this;rw[this];simp only[iX,qA];cases g x<;>cases p y x<;>simp
 cases L with
 |nil=>rfl
 |cons y r=>
  simp only[bC];rw[e];have:=f r [] y s rfl;simp only[hP]at this;rw[this,qA];cases g y<;>simp
def GC{α d β:Type}{B:Int->α->(Unit->Option β)->Unit->Option β}{K:Unit->Option β}(e:α->d->Bool)(a:Option β){m:List d}(k:∀j x a4 s,B j x a4 s=af (b6 m j) λy=>bif !(e x y)then a else a4 s):
  ∀(l:List α),l.length=m.length->bC l 0 B K ()=bif (l.zip m).all (λp=>e p.1 p.2)then K ()else a:=by
 have n:∀(l:List α) (c b:List d),m=c++b->l.length=b.length->bC l c.length B K ()=bif (l.zip b).all (λp=>e p.1 p.2)then K ()else a:=by
  intro l;induction l with
  |nil=>intro c b _ g;rfl
  |cons x l i=>
   intro c b h f;cases b with
   |nil=>simp at f
   |cons y b=>
    simp only[bC,k,h,iy,aR];have:=i (c++[y]) b (by simpa using h) (by simpa using f);simp only[dF,fW,hP]at this;rw[this,List.zip_cons_cons,qA];cases e x y<;>rfl
 intro l g;exact n l [] m rfl g
def dT(n a hi:Int):Bool:=decide (a<=n)&&decide (n<=hi)
def px(a:a6)(x:ew):Bool:=dT x.ez 1 99&&!decide (x.ez=a.ai)&&dT x.kW 1 1000&&dT x.fo 0 1000
def fM(n:Int):Bool:=decide (n=8)||(decide (n=16)||(decide (n=32)||decide (n=64)))
def iM(c:fx):Bool:=dT c.bA 0 7&&dT c.aP 1 256&&fM c.Length
def z2(l:BP):Bool:=iX (λa b=>decide (a.ez<b.ez)) l
def wM(l:zo):Bool:=iX (λa b=>decide (a.bA<b.bA)) l
def eC(a:a6):Bool:=(dT a.ai 1 99&&dT a.Seq 1 1000000&&decide ((a.Links.length:Int)<=23))&&(a.Links.all (px a)&&z2 a.Links)&&(decide ((a.Claims.length:Int)<=8)&&(a.Claims.all iM&&wM a.Claims))
theorem HD{x y:Int}:decide (x<=y)=!decide (y<x):=by grind
def T0(n:Int):Ez n=some (fM n):=rfl
def wW(n a hi:Int):p5 n a hi=some (dT n a hi):=rfl
theorem tV(n:Int):nH n=some (fM n):=by
 unfold nH fM
 grind
theorem vl(a:a6):q1 a=some (eC a):=by
 unfold q1 eC;simp only[jn,wW,aR];by_cases j:(a.Links.length:Int)<=23
 .have g:¬(23:Int)<a.Links.length:=by omega
  by_cases h:(a.Claims.length:Int)<=8
  .have i:¬(8:Int)<a.Claims.length:=by omega
   simp only[j,g,h,i,ef,jQ,Bool.and_true,hq];cases dT a.ai 1 99<;>cases dT a.Seq 1 1000000<;>simp only[dk,js,cm,bH,tZ,hq,up]
   refine(M1 (px a) (λa b=>decide (a.ez<b.ez)) (some false) ?_ ?_ _).trans ?_
   .intro f a4 s;simp only[aR,px]
    grind
   .intro e f m l k s a4 d c;have:decide ((0:Int)<(e:Int))=true:=by simp;omega
    simp only[aR,px,u5 d c (by omega),HD,this]
    grind
   .refine Eq.trans (b:=bif a.Links.all (px a)&&z2 a.Links then(bif a.Claims.all iM&&wM a.Claims then some true else some false)else some false) ?_ ?_
    .unfold z2;congr 1;refine(M1 iM (λa b=>decide (a.bA<b.bA)) (some false) ?_ ?_ _).trans ?_
     .intro f a4 s;simp only[tV,aR,iM]
      grind
     .intro e f m l k s a4 d c;have:decide ((0:Int)<(e:Int))=true:=by simp;omega
      simp only[tV,aR,iM,u5 d c (by omega),HD,this]
      grind
     .rfl
    .grind
  .grind
 .grind
def Im(d:bM):Bool:=iX (λa b=>decide (a.ai<b.ai)) d.bq
def nG(d:bM):Int:=bif decide ((99:Int)<(d.bq.length:Int))then 3 else bif d.bq.all eC then(bif Im d then 0 else 25)else 1
def abH(l:td)(f:a6->dw)(p:a6->Bool)(e:∀x,f x=some (p x)):Ac l f=some (l.any p):=by
 unfold Ac DU;obtain⟨k,i,b⟩:=yM (B:=λ(d:Int) (h:a6) (g:Unit->ir) (a:Unit)=>match a with|()=>af (f h) λ(c:Bool)=>bif c then some (d:Int)else g ()) (K:=λ(a:Unit)=>match a with|()=>some (-1:Int)) p (λj x a4 m=>by simp only[e,aR]) (λ_=>rfl) l 0 ();simp only[i,aR,b]
theorem yO(d:bM):pZ d=some (nG d):=by
 unfold pZ nG;by_cases b:(99:Int)<d.bq.length
 .simp[b]
 simp only[b,jQ,bH];rw[abH d.bq _ (λa=>!eC a) (λh=>by simp only[EM,vl,aR]),aR];rw[<-List.not_all_eq_any_not];cases d.bq.all eC
 .rfl
 simp only[dk,bH,cm];refine(F5 (λa f:a6=>decide (a.ai<f.ai)) (some 25) ?_ ?_ _).trans ?_
 .intros;rfl
 .intro g h k j i s a4 e c;have:decide ((0:Int)<(g:Int))=true:=by simp;omega
  simp only[jn,u5 e c (by omega),aR,HD,this]
  grind
 .unfold Im;cases iX _ d.bq<;>rfl
def DF(l m:BP):Bool:=decide ((l.length:Int)=m.length)&&(l.zip m).all (λa=>sT a.1 a.2)
def DG(l m:zo):Bool:=decide ((l.length:Int)=m.length)&&(l.zip m).all (λa=>sS a.1 a.2)
def oh(a b:a6):Bool:=decide (a.ai=b.ai)&&(decide (a.Seq=b.Seq)&&((a.bK==b.bK)&&(DF a.Links b.Links&&DG a.Claims b.Claims)))
theorem Ro(l m:BP):Az l m=some (DF l m):=by
 unfold Az DF;by_cases a:(l.length:Int)=m.length
 .simp only[a,ef,dk,bH,hq];rw[GC sT (some false) (λb d a4 c=>rfl) l (by omega)]
  grind
 .simp[a]
theorem Rp(l m:zo):AA l m=some (DG l m):=by
 unfold AA DG;by_cases a:(l.length:Int)=m.length
 .simp only[a,ef,dk,bH,hq];rw[GC sS (some false) (λb d a4 c=>rfl) l (by omega)]
  grind
 .simp[a]
theorem CP(a b:a6):sJ a b=some (oh a b):=by
 unfold sJ oh;simp only[Ro,Rp,aR]
 grind
def tL(a b:bM):Bool:=decide ((a.bq.length:Int)=b.bq.length)&&(a.bq.zip b.bq).all (λc=>oh c.1 c.2)
def aay(a b:bM):xF a b=some (tL a b):=by
 unfold xF DP tL;by_cases c:(a.bq.length:Int)=b.bq.length
 .simp only[c,ef,dk,bH,hq];rw[GC (m:=b.bq) oh (some false) (λd e a4 s=>by simp only[CP,aR]) a.bq (by omega)];cases(a.bq.zip b.bq).all _<;>rfl
 .simp[c,aR]
def oR:a6:=a6.mk 0 0 false [] []
def hI(d:bM)(r:Int):a6×Bool:=match d.bq.find? (λa=>decide (a.ai=r))with|some a=>(a,true)|none=>(oR,false)
def yo(a:a6):Prop:=a.Links.length<=100000/\a.Claims.length<=100000
def pa(d:bM):Prop:=d.bq.length<=100000/\∀a∈d.bq,yo a
def N0{l:BP}(h:l.length<=100000):wT l=some l:=by
 unfold wT Af;rw[g9 (by simp;omega)];rfl
def C8{l:zo}(h:l.length<=100000):uy l=some l:=by
 unfold uy Ae;rw[g9 (by simp;omega)];rfl
def Cp{a:a6}(h:yo a):qS a=some a:=by
 unfold qS;rw[N0 h.1,aR,C8 h.2,aR]
def y7{d:bM}(h:pa d)(r:Int):qY d r=some (hI d r):=by
 unfold qY;rw[F6 (λa:a6=>decide (a.ai=r)) (λa=>af (qS a) λ(b:a6)=>some (b,true)) (λe f a4 s=>rfl)];unfold hI;cases c:d.bq.find? (λa=>decide (a.ai=r))with
 |none=>rfl
 |some a=>simp only[Cp (h.2 a (pP c)),aR]
end
section
def L4{t:cu}(h:fC t):Ok (xg t) (λp=>fM p.1=true/\fC p.2):=by
 unfold xg;refine Ok.af (vz h (by decide) (by decide)) λp a=>Ok.s ⟨?_,a.2⟩;have:=a.1;simp only[c5,hr,hG]at this;show fM p.1=true;simp only[fM,kZ,eY];omega
end
section
structure eK(d:bM):Prop where
 n:d.bq.length<=99
 ok:∀a∈d.bq,eC a=true
 ic:d.bq.Pairwise (λa b=>a.ai<b.ai)
theorem n4{d:bM}:nG d=0↔eK d:=by
 unfold nG Im;constructor
 .intro b;by_cases e:(99:Int)<d.bq.length
  .simp[e]at b
  cases c:d.bq.all eC
  .simp[e,c]at b
  cases g:iX (λa f:a6=>decide (a.ai<f.ai)) d.bq
  .simp[e,c,g]at b
  refine⟨by omega,λa h=>gE.1 c a h,?_⟩;have:=xY (p:=λa f:a6=>decide (a.ai<f.ai)) (λa f i e c=>by simp at e c ⊢;omega) g
  grind
 .intro b;have e:¬(99:Int)<d.bq.length:=by have:=b.n;omega
  have c:d.bq.all eC=true:=gE.2 b.ok;have g:iX (λa f:a6=>decide (a.ai<f.ai)) d.bq=true:=uP (b.ic.imp λb=>by simpa using b);simp[e,c,g]
structure vi(a:a6):Prop where
 r:1<=a.ai/\a.ai<=99
 n:a.Links.length<=23
 Eg:a.Claims.length<=8
 g:∀x∈a.Links,(1<=x.ez/\x.ez<=99)/\x.ez≠a.ai/\(1<=x.kW/\x.kW<=1000)/\0<=x.fo/\x.fo<=1000
 ic:a.Links.Pairwise (λx y=>x.ez<y.ez)
variable {a:a6}
theorem py(h:eC a=true):vi a:=by
 simp only[eC,b9,eY,dT]at h;obtain⟨⟨⟨⟨b,_⟩,c⟩,f,g⟩,i,_⟩:=h;refine⟨b,by omega,by omega,λx e=>?_,?_⟩
 .have:=gE.1 f x e;simp only[px,dT,b9,eY,gD,iz]at this;omega
 .have:=xY (p:=λa d:ew=>decide (a.ez<d.ez)) (λa d j b c=>by simp at b c ⊢;omega) g
  grind
def eK.sm{d:bM}(h:eK d):pa d:=⟨by have:=h.n;omega,λa H=>by have:=py (h.ok a H);exact⟨by have:=this.n;omega,by have:=this.Eg;omega⟩⟩
theorem GD{α:Type}{f:α->Int}:∀{l:List α},l.Pairwise (λa b=>f a<f b)->∀{a b:α},a∈l->b∈l->f a=f b->a=b
 |[],_,_,_,h,_,_=>by simp at h
 |x::r,c,a,b,e,d,he=>by
  rw[fI]at c;rcases c5.1 e with k|i
  .grind
  .rcases c5.1 d with j|g
   .grind
   .exact GD c.2 i g he
def eK.uniq{d:bM}(h:eK d){b:a6}(O:a∈d.bq)(H:b∈d.bq)(Q:a.ai=b.ai):a=b:=GD h.ic O H Q
variable {x:ew}
def vi.uniq(h:vi a){y:ew}(H:x∈a.Links)(O:y∈a.Links)(Q:x.ez=y.ez):x=y:=GD h.ic H O Q
theorem p9(d:bM)(r:Int):(∃a∈d.bq,a.ai=r/\hI d r=(a,true))\/((∀a∈d.bq,a.ai≠r)/\hI d r=(oR,false)):=by
 unfold hI
 grind
theorem aaz{d:bM}(h:eK d)(c:a∈d.bq):hI d a.ai=(a,true):=by
 rcases p9 d a.ai with⟨i,b,f,e⟩|⟨g,_⟩
 .rw[e,h.uniq b c f]
 .grind
def PK:ew:=ew.mk 0 0 0
def za(a:a6)(n:Int):ew×Bool:=match a.Links.find? (λx=>decide (x.ez=n))with|some x=>(x,true)|none=>(PK,false)
theorem Wu(a:a6)(n:Int):(∃x∈a.Links,x.ez=n/\za a n=(x,true))\/((∀x∈a.Links,x.ez≠n)/\za a n=(PK,false)):=by
 unfold za
 grind
def Y1(a:a6)(n:Int):A3 a n=some (za a n):=by
 unfold A3;rw[F6 (λx:ew=>decide (x.ez=n)) (λx=>some (x,true)) (λb x a4 s=>rfl)];unfold za;cases a.Links.find? _<;>rfl
def qn(d:bM)(a b:Int):Prop:=∃x∈d.bq,∃c∈d.bq,x.ai=a/\c.ai=b/\(∃e∈x.Links,e.ez=b)/\∃f∈c.Links,f.ez=a
def AE(x:a6)(p:ew)(y:a6)(q:ew):bm:=bm.mk x.ai y.ai p.kW q.kW (if q.fo<p.fo then q.fo else p.fo)
def Qb(x y:a6)(l:bm):Prop:=∃a∈x.Links,∃b∈y.Links,x.ai<y.ai/\a.ez=y.ai/\b.ez=x.ai/\l=AE x a y b
def qI(d:bM)(x:a6)(p:ew)(l:bm):Prop:=∃a∈d.bq,∃b∈a.Links,x.ai<a.ai/\p.ez=a.ai/\b.ez=x.ai/\l=AE x p a b
inductive Rd(d:bM)(dN:Int):Int->Prop
 |refl:Rd d dN dN
 |step {a b:Int} (h:Rd d dN a) (aA:qn d a b):Rd d dN b
structure yj(d:bM)(dN:Int)(T:aS):Prop where
 JQ:T.bf.Pairwise (λa b=>a.aP<b.aP)
 Io:∀r,r∈T.bf↔∃a∈d.bq,Rd d dN a.ai/\r=bV.mk a.ai a.bK
 JR:T.Links.Pairwise (λa b=>ga a b=true)
 JS:∀l,l∈T.Links↔∃x∈d.bq,Rd d dN x.ai/\∃y∈d.bq,Qb x y l
theorem yw{α:Type}{r:α->α->Prop}(hi:∀a,¬r a a)(f:∀a b c,r a b->r b c->r a c):∀{l m:List α},l.Pairwise r->m.Pairwise r->(∀x,x∈l↔x∈m)->l=m
 |[],[],_,_,_=>rfl
 |[],y::m,_,_,h=>by have:=(h y).2 (by simp);simp at this
 |x::l,[],_,_,h=>by have:=(h x).1 (by simp);simp at this
 |x::l,y::m,h1,d,h=>by
  rw[fI]at h1 d;have i:x=y:=by
   rcases c5.1 ((h x).1 (by simp))with e|e
   .exact e
   rcases c5.1 ((h y).2 (by simp))with g|g
   all_goals grind
  subst i;congr 1;refine yw hi f h1.2 d.2 λj=>?_;have:=h j;simp only[c5]at this;constructor
  .grind
  .grind
variable {dN:Int}
def yj.unique{d:bM}{T Q:aS}(O:yj d dN T)(H:yj d dN Q):T=Q:=by
 obtain⟨Y,aa⟩:=T;obtain⟨X,Z⟩:=Q;have ab:Y=X:=yw (r:=λa b:bV=>a.aP<b.aP) (λa h=>by omega) (λa b c h S=>by omega) O.JQ H.JQ λx=>(O.Io x).trans (H.Io x).symm;have ae:aa=Z:=yw (r:=λa b:bm=>ga a b=true) (λa h=>by simp[ga]at h) (λa b c h S=>Co a b c h S) O.JR H.JR λx=>(O.JS x).trans (H.JS x).symm;rw[ab,ae]
def DH:aS:=aS.mk [] []
def oq(d:bM)(dN:Int)(T:aS):Prop:=(¬((∃a∈d.bq,a.ai=dN)/\eK d)/\T=DH)\/(((∃a∈d.bq,a.ai=dN)/\eK d)/\∃b,yj d dN b/\T=if h3 b=0 then b else DH)
def oq.unique{d:bM}{dN:Int}{T Q:aS}(Y:oq d dN T)(S:oq d dN Q):T=Q:=by
 rcases Y with⟨a,b⟩|⟨a,aa,b,c⟩<;>rcases S with⟨O,H⟩|⟨O,Z,H,X⟩
 .rw[b,H]
 .exact absurd O a
 .exact absurd a O
 .rw[c,X,b.unique H]
def Ey(d:bM):bX:=d.bq.map (·.ai)
def aaA{d:bM}(h:eK d):(Ey d).length<=99:=by have:=h.n;simpa [Ey]using this
def eK.key{d:bM}(h:eK d){r:Int}(H:a∈d.bq)(O:a.ai=r):hI d r=(a,true):=by subst O;exact aaz h H
def Y2{d:bM}{b:Int}{S:Int->Prop}(h:Rd d dN b)(f:S dN)(c:∀x,S x->∀y,qn d x y->S y):S b:=by
 induction h with
 |refl=>exact f
 |step _ a e=>exact c _ e _ a
theorem Xt{l:bX}{x:Int}(h:l.Nodup)(a:x∉l):(l++[x]).Nodup:=by grind
variable {α:Type}{l:List α}
theorem Rq{r:α->α->Prop}{x:α}(h:l.Pairwise r)(a:∀y∈l,r y x):(l++[x]).Pairwise r:=by grind
def aaB{a b:bm}:ga a b=true↔a.A<b.A\/a.A=b.A/\a.B<b.B:=by simp[ga]
theorem M3{α:Type}{d:α->α->Int}(k:∀a b c,d a b<0->d b c<0->d a c<0){x:α}:∀{l:List α},(l.Pairwise λa b=>d a b<0)->(∀y∈l,d x y<0\/d y x<0)->(qE d x l).Pairwise λa b=>d a b<0
 |[],_,_=>by simp[qE]
 |y::r,h,i=>by
  rw[fI]at h;simp only[qE];split
  .rename_i j;rw[fI];refine⟨λg e=>?_,M3 k h.2 λg e=>i g (by simp[e])⟩;rcases c5.1 ((Ce d x r).mem_iff.1 e)with rfl|e
   all_goals grind
  .rename_i j;have m:d x y<0:=by rcases i y (by simp)with f|f;exact f;exact absurd f j
   rw[fI];refine⟨λg e=>?_,fI.2 h⟩
   grind
def Ld{α:Type}{d:α->α->Int}(e:∀a b c,d a b<0->d b c<0->d a c<0):∀{l:List α},(l.Pairwise λa b=>d a b<0\/d b a<0)->(m8 d l).Pairwise λa b=>d a b<0
 |[],_=>by simp[m8]
 |x::r,h=>by
  rw[fI]at h;exact M3 e (Ld e h.2) λg f=>h.1 g ((x2 d r).mem_iff.1 f)
def M4{α:Type}{c:α->α->Int}:∀{l:List α},(l.Pairwise λa b=>c a b<0)->qF c l=true
 |[],_=>rfl
 |[x],_=>rfl
 |a::b::r,h=>by
  rw[fI]at h;simp only[qF,b9,eY];exact⟨h.1 b (by simp),M4 h.2⟩
def GF{ks:List (α->Int)}(h:l.Pairwise λa b=>eF ks a b<0\/eF ks b a<0)(d:l.length<=1000000):Ok (kg (eF ks) l) (λm=>m.Perm l/\m.Pairwise λa b=>eF ks a b<0):=by
 have c:=Ld (sP ks) h;refine⟨m8 (eF ks) l,?_,x2 _ _,c⟩;unfold kg;have:(decide (l.length<4611686018427387904))=true:=by simp;omega
 rw[M4 c,this];rfl
def Ip(a b:bV):eF [λx:bV=>x.aP] a b<0↔a.aP<b.aP:=by
 rw[uY];simp[eF]
def Iq(a b:bm):eF [λx:bm=>x.A,λx:bm=>x.B] a b<0↔ga a b=true:=by
 rw[uY,uY];simp[eF,ga]
def T1{d:bM}{e:a6}(h:¬qn d e.ai x.ez)(i:e∈d.bq)(a:x∈e.Links)(l:bm):¬qI d e x l:=by
 rintro⟨k,b,j,c,_,g,f,_⟩;exact h ⟨e,i,k,b,rfl,g.symm,⟨x,a,rfl⟩,j,c,f⟩
theorem aaC{d:bM}(a2:pa d)(dN:Int):Ok (pX d dN) (oq d dN):=by
 unfold pX;rw[y7 a2,aR];refine aFj (λa7:Bool=>a7=true↔¬((∃a∈d.bq,a.ai=dN)/\eK d)) (λa7 aD=>?_) λbU ak=>?_
 .refine Ok.cs (λb=>Ok.s (.inl ⟨aD.1 b,rfl⟩)) λb=>?_;have h:(∃a∈d.bq,a.ai=dN)/\eK d:=zG λA=>by rw[aD.2 A]at b;cases b
  obtain⟨⟨bb,ax,Y⟩,C⟩:=id h;have b3:dN∈Ey d:=dg.2 ⟨bb,ax,Y⟩;have bF:=aaA C;rw[C.key ax Y]
  refine aFv (λs:td×uX×mJ×List (Int×Bool)=>∃c:td,(∀a∈c++s.1,a∈d.bq/\Rd d dN a.ai)/\((c++s.1).map (·.ai)).Nodup/\
   (∀r,(aO s.2.2.2 r).getD false=true↔r∈(c++s.1).map (·.ai))/\dN∈(c++s.1).map (·.ai)/\(∀a∈c,∀g,qn d a.ai g->g∈(c++s.1).map (·.ai))/\
   s.2.1=c.map (λa=>bV.mk a.ai a.bK)/\(∀l,l∈s.2.2.1↔∃x∈c,∃q∈x.Links,qI d x q l)/\s.2.2.1.Pairwise (λa g=>¬(a.A=g.A/\a.B=g.B))/\s.2.2.1.length<=23*c.length)
   (λs=>100-s.2.1.length) ⟨[],by simp;exact⟨ax,by rw[Y];exact .refl⟩,by simp,λr=>?_,by simp[Y],by simp,rfl,by simp,by simp,by simp⟩ (by simp) ?_
  .simp only[lC,dr,mO,gL];rw[ih];simp only[aO]
   grind
  rintro⟨aA,a5,bJ,b4⟩ a4 ⟨c,w,M,ao,X,V,R,Ak,ar,bh⟩ aH;simp only at w M ao X V R Ak ar bh aH
  have aK:∀{l:td},(∀a∈l,a∈d.bq)->(l.map (·.ai)).Nodup->l.length<=99:=λ{l} b A=>by
   have:=gP (nU A λx B=>by obtain⟨a,f,rfl⟩:=dg.1 B;exact dg.2 ⟨a,b a f,rfl⟩:_<=(Ey d).length) bF;simpa using this
  have bt:=aK (λa f=>(w a f).1) M;simp only[dF]at bt;have bR:a5.length=c.length:=by rw[R];simp
  refine Ok.cs (λaa=>?_) λaa=>?_
  .cases aA with
   |nil=>simp at aa
   |cons e rest=>
   have T:=w e (by simp);have nM:=py (C.ok e T.1);have bz:e.ai∉c.map (·.ai):=by
    rw[km,uf]at M;intro b;exact M.2.2 _ b e.ai (by simp) rfl
   have ba:b6 (e::rest) (0:Int)=some e:=by simp[b6]
   rw[ba,aR,g9 (by simp;omega),aR]
   refine aFg (λq (s:td×mJ×List (Int×Bool))=>∃m,s.1=(e::rest)++m/\(∀a∈c++s.1,a∈d.bq/\Rd d dN a.ai)/\((c++s.1).map (·.ai)).Nodup/\
    (∀r,(aO s.2.2 r).getD false=true↔r∈(c++s.1).map (·.ai))/\(∀x∈q,qn d e.ai x.ez->x.ez∈(c++s.1).map (·.ai))/\
    (∀l,l∈s.2.1↔(∃x∈c,∃j∈x.Links,qI d x j l)\/∃j∈q,qI d e j l)/\s.2.1.Pairwise (λa g=>¬(a.A=g.A/\a.B=g.B))/\s.2.1.length<=23*c.length+q.length)
    ?_ _ ⟨[],by simp,w,M,ao,by simp,λl=>by rw[Ak];simp,ar,by simp;omega⟩ ?_
   .rintro q x r ⟨O,aW,aX⟩ bW am ⟨m,H,D,F,z,K,E,L,az⟩ be;simp only at H D F z K E L az;have aZ:x∈e.Links:=by rw[am];simp
    have b2:q.length+1+r.length=e.Links.length:=by rw[am];simp;omega
    have bQ:=nM.n;have bD:=aK (λa f=>(D a f).1) F;simp only[dF]at bD
    refine aFj (λs:td×List (Int×Bool)×mJ=>∃m,s.1=(e::rest)++m/\(∀a∈c++s.1,a∈d.bq/\Rd d dN a.ai)/\((c++s.1).map (·.ai)).Nodup/\
     (∀r,(aO s.2.1 r).getD false=true↔r∈(c++s.1).map (·.ai))/\(∀i∈q++[x],qn d e.ai i.ez->i.ez∈(c++s.1).map (·.ai))/\
     (∀l,l∈s.2.2↔(∃x∈c,∃j∈x.Links,qI d x j l)\/∃j∈q++[x],qI d e j l)/\s.2.2.Pairwise (λa g=>¬(a.A=g.A/\a.B=g.B))/\s.2.2.length<=23*c.length+(q++[x]).length)
     (λs ae=>by obtain⟨_,_,_⟩:=s;exact be _ ae) λa9 an=>?_
    rw[y7 a2,aR,Y1,aR]
    have aV:¬qn d e.ai x.ez->Ok (a9 (O,aX,aW)) (oq d dN):=λaI=>by
     refine an _ ⟨m,H,D,F,z,λi o t=>?_,λl=>?_,L,by simp;omega⟩
     .rcases dG.1 o with o|o
      .exact K i o t
      .simp at o;subst o;exact absurd t aI
     .rw[E];constructor
      .rintro(b|⟨j,p,b⟩)
       .exact .inl b
       .exact .inr ⟨j,by simp[p],b⟩
      .rintro(b|⟨j,p,b⟩)
       .exact .inl b
       .rcases dG.1 p with p|p
        .exact .inr ⟨j,p,b⟩
        .simp at p;subst p;exact absurd b (T1 aI T.1 aZ l)
    rcases p9 d x.ez with⟨i,o,aT,G⟩|⟨A,G⟩
    .rw[G];rcases Wu i e.ai with⟨j,p,aY,y⟩|⟨A,y⟩
     .rw[y];simp only[dk,ow,bH];have jj:qn d e.ai x.ez:=⟨e,T.1,i,o,rfl,aT,⟨x,aZ,rfl⟩,j,p,aY⟩
      have aq:∀l,qI d e x l↔(e.ai<i.ai/\l=AE e x i j):=λl=>by
       constructor
       .rintro⟨I,J,u,k,aj,bc,bZ,rfl⟩;have bG:=C.uniq J o (by omega);subst bG;rw[(py (C.ok _ J)).uniq k p (by omega)];exact⟨aj,rfl⟩
       .rintro⟨aj,rfl⟩;exact⟨i,o,j,p,aj,by omega,aY,rfl⟩
      refine aFj (λZ:mJ=>(∀l,l∈Z↔(∃x∈c,∃j∈x.Links,qI d x j l)\/∃j∈q++[x],qI d e j l)/\Z.Pairwise (λa g=>¬(a.A=g.A/\a.B=g.B))/\Z.length<=23*c.length+(q++[x]).length) (λZ Q=>?_) λb0 aL=>?_
      .have ay:i.ai=x.ez:=aT;refine Ok.cs (λh=>?_) λh=>?_
       .have h:i.ai∉(c++O).map (·.ai):=λb=>by
         have:=(z i.ai).2 b;rw[this]at h;simp at h
        rw[g9 (by simp;omega),aR];have aw:(c++(O++[i])).map (·.ai)=(c++O).map (·.ai)++[i.ai]:=by simp
        refine an _ ⟨m++[i],by simp only[H];simp,λa f=>?_,?_,λr=>?_,λN n t=>?_,Q.1,Q.2.1,Q.2.2⟩
        .simp only at f;rw[<-jt]at f;rcases dG.1 f with f|f
         .exact D a f
         .simp at f;subst f;exact⟨o,by rw[ay];exact .step T.2 jj⟩
        .simp only[aw];exact Xt F h
        .simp only[aw];rw[ih,dG];split
         .rename_i e;simp[e]
         .rename_i e;rw[z];simp[e]
        .simp only[aw];rcases dG.1 n with n|n
         .exact ud _ (K N n t)
         .simp at n;subst n;rw[ay];simp
       .have h:i.ai∈(c++O).map (·.ai):=(z i.ai).1 (by simpa using h);refine an _ ⟨m,H,D,F,z,λN n t=>?_,Q.1,Q.2.1,Q.2.2⟩;rcases dG.1 n with n|n
        .exact K N n t
        .simp at n;subst n;rw[<-ay];exact h
      .refine Ok.cs (λh=>?_) λh=>?_
       .have h:e.ai<i.ai:=by simpa using h
        rw[g9 (by simp;omega),aR];refine aL _ ⟨λl=>?_,Rq L λl t=>?_,by simp;omega⟩
        .rw[dG,E];constructor
         .rintro((b|⟨u,k,b⟩)|b)
          .exact .inl b
          .exact .inr ⟨u,by simp[k],b⟩
          .exact .inr ⟨x,by simp,(aq l).2 ⟨h,gL.1 b⟩⟩
         .rintro(b|⟨u,k,b⟩)
          .exact .inl (.inl b)
          .rcases dG.1 k with k|k
           .exact .inl (.inr ⟨u,k,b⟩)
           .simp at k;subst k;exact .inr (gL.2 ((aq l).1 b).2)
        .rcases(E l).1 t with⟨N,n,_,_,I,_,u,_,_,_,_,rfl⟩|⟨N,n,I,_,u,_,_,bc,_,rfl⟩
         .intro b;exact bz (dg.2 ⟨N,n,b.1⟩)
         .intro b;have bT:I.ai=i.ai:=b.2;have:=nM.ic;rw[am,mG]at this;have:=this.2.2 N n x (by simp);omega
       .have h:¬e.ai<i.ai:=by simpa using h
        refine aL _ ⟨λl=>?_,L,by simp;omega⟩;rw[E];constructor
        .rintro(b|⟨u,k,b⟩)
         .exact .inl b
         .exact .inr ⟨u,by simp[k],b⟩
        .rintro(b|⟨u,k,b⟩)
         .exact .inl b
         .rcases dG.1 k with k|k
          .exact .inr ⟨u,k,b⟩
          .simp at k;subst k;exact absurd ((aq l).1 b).1 h
     .rw[y];simp only[dk,js,Bool.or_true,cm];refine aV ?_;rintro⟨P,v,I,J,aB,aC,_,u,k,W⟩;rw[C.uniq J o (by omega)]at k;exact A u k W
    .rw[G];simp only[js,Bool.true_or,cm];refine aV ?_;rintro⟨P,v,I,J,aB,aC,_⟩;exact A I J aC
   .rintro⟨O,aW,aX⟩ ⟨m,H,D,F,z,K,E,L,az⟩;simp only at H D F z K E L az;subst H;have ae:hB (e::rest++m) (1:Int) ((e::rest++m).length:Int)=some (rest++m):=by
     unfold hB;rw[bx ⟨by omega,by simp;omega,by omega⟩,qt (by omega)];rfl
    simp only[ae,aR];have bo:(c++[e])++(rest++m)=c++(e::rest++m):=by simp
    refine aH _ ⟨c++[e],?_⟩ ?_
    .simp only[bo];refine⟨D,F,z,?_,λa f g t=>?_,by simp[R],λl=>?_,L,by have:=nM.n;simp;omega⟩
     .have:(c++(e::rest++m)).map (·.ai)=(c++(e::rest)).map (·.ai)++m.map (·.ai):=by simp
      rw[this];exact ud _ X
     .rcases dG.1 f with f|f
      .have:(c++(e::rest++m)).map (·.ai)=(c++(e::rest)).map (·.ai)++m.map (·.ai):=by simp
       rw[this];exact ud _ (V a f g t)
      .simp at f;subst f
       obtain⟨P,v,I,J,aB,aC,⟨bj,aU,W⟩,_⟩:=id t;rw[C.uniq v T.1 aB]at aU;have:=K bj aU (by rw[W];exact t)
       rwa [W]at this
     .rw[E];constructor
      .rintro(⟨P,v,b⟩|b)
       .exact⟨P,by simp[v],b⟩
       .exact⟨e,by simp,b⟩
      .rintro⟨P,v,b⟩;rcases dG.1 v with v|v
       .exact .inl ⟨P,v,b⟩
       .simp at v;subst v;exact .inr b
    .simp only[dF,uc];omega
  .have bs:aA=[]:=by cases aA with|nil=>rfl|cons a g=>simp at aa
   subst bs;simp only[l5]at w M ao X V
   have aJ:∀x∈d.bq,(x∈c↔Rd d dN x.ai):=λx B=>by
    refine⟨λb=>(w x b).2,λb=>?_⟩
    have:=Y2 (S:=λr=>r∈c.map (·.ai)) b X λr y g t=>by
     obtain⟨a,f,rfl⟩:=dg.1 y;exact V a f g t
    obtain⟨a,f,U⟩:=dg.1 this
    rwa [<-C.uniq (w a f).1 B U]
   have bk:a5.Pairwise λa g=>eF [λx:bV=>x.aP] a g<0\/eF [λx:bV=>x.aP] g a<0:=by
    rw[R,lq];have:=M;rw[List.nodup_iff_pairwise_ne,lq]at this;refine this.imp λ{a g} b=>?_;rw[Ip,Ip];show a.ai<g.ai\/g.ai<a.ai;omega
   have bv:bJ.Pairwise λa g=>eF [λx:bm=>x.A,λx:bm=>x.B] a g<0\/eF [λx:bm=>x.A,λx:bm=>x.B] g a<0:=by
    refine ar.imp λ{a g} b=>?_;rw[Iq,Iq];simp only[ga,kZ,b9,eY]
    omega
   refine Ok.af (GF bk (by omega)) λbi aG=>?_;refine Ok.af (GF bv (by omega)) λbB aE=>?_;rw[qb,aR];have aN:yj d dN (aS.mk bi bB):=by
    refine⟨aG.2.imp λb=>(Ip _ _).1 b,λr=>?_,aE.2.imp λb=>(Iq _ _).1 b,λl=>?_⟩
    .simp only[aG.1.mem_iff,R,dg];constructor
     .rintro⟨a,f,rfl⟩;exact⟨a,(w a f).1,(w a f).2,rfl⟩
     .rintro⟨a,f,y,rfl⟩;exact⟨a,(aJ a f).2 y,rfl⟩
    .simp only[aE.1.mem_iff,Ak];constructor
     .rintro⟨x,B,q,ab,i,o,j,p,b⟩;exact⟨x,(w x B).1,(w x B).2,i,o,q,ab,j,p,b⟩
     .rintro⟨x,B,y,i,o,q,ab,j,p,b⟩;exact⟨x,(aJ x B).2 y,q,ab,i,o,j,p,b⟩
   refine Ok.cs (λh=>Ok.s (.inr ⟨‹_›,_,aN,?_⟩)) λh=>Ok.s (.inr ⟨‹_›,_,aN,?_⟩)
   .rw[bw (by simpa using h)];rfl
   .rw[bx (by simpa using h)]
 .rw[yO,aR];refine Ok.cs (λh=>?_) λh=>?_
  .refine ak _ ⟨λ_ ag=>?_,λ_=>rfl⟩;have:=n4.2 ag.2;simp[this]at h
  .have h:eK d:=n4.1 (by simpa using h);rcases p9 d dN with⟨a,f,U,G⟩|⟨A,G⟩
   .rw[G];exact ak _ ⟨λb=>by simp at b,λb=>absurd ⟨⟨a,f,U⟩,h⟩ b⟩
   .rw[G];refine ak _ ⟨λ_ ag=>?_,λ_=>rfl⟩;obtain⟨⟨a,f,U⟩,_⟩:=ag;exact A a f U
end
section
def rX:bX->Nat:=List.foldl (λa b=>a*256+b.toNat) 0
def GG(l:bX)(b:Int):rX (l++[b])=rX l*256+b.toNat:=by simp[rX]
variable {α:Type}
def aaD:∀{l:List α},l≠[]->∃i b,l=i++[b]:=λ{l} a=>⟨l.dropLast,l.getLast a,(zS a).symm⟩
structure k3(D:List Int)(B V:Nat):Prop where
 z7:∀b∈D,0<=b/\b<256
 le:B<=8*D.length
 hi:8*D.length<=B+8
 num:rX D=V*2 ^ (8*D.length-B)
def k3.nil:k3 [] 0 0:=⟨by simp,by simp,by simp,by simp[rX]⟩
variable {B V:Nat}
theorem k3.more{D:bX}(h:k3 D B V)(O:8*D.length=B):k3 (D++[0]) B V:=by
 refine⟨?_,by simp;omega,by simp;omega,?_⟩
 .intro b H;rcases dG.1 H with H|H
  .exact h.z7 b H
  .simp at H;omega
 .rw[GG,h.num]
  grind
def k3.last{D:bX}{b:Int}(h:k3 (D++[b]) B V)(Y:B<8*(D.length+1)):0<=b/\b<256/\b.toNat%2 ^ (8*(D.length+1)-B)=0:=by
 have O:=h.z7 b (by simp);refine⟨O.1,O.2,?_⟩;have H:=h.num;have S:=h.hi;simp only[dF,fW,hP,hR]at H S;rw[GG]at H;generalize Z:8*(D.length+1)-B=k at H ⊢;have X:(256:Nat)=2 ^ k*2 ^ (8-k):=by rw[<-nk,show k+(8-k)=8 by omega]
 have Q:(rX D*256+b.toNat)%2 ^ k=0:=by rw[H];exact Nat.mul_mod_left _ _
 rw[X,<-tJ,Nat.mul_right_comm,Nat.mul_add_mod']at Q;exact Q
variable {k:Nat}
theorem k3.push{D:bX}{b:Int}{x:Nat}(h:k3 (D++[b]) B V)(ao:1<=k)(ak:B+k<=8*(D.length+1))(Y:x<2 ^ k):
  k3 (D++[b+(x*2 ^ (8*(D.length+1)-B-k):Nat)]) (B+k) (V*2 ^ k+x)/\b.toNat+x*2 ^ (8*(D.length+1)-B-k)<256/\x*2 ^ (8*(D.length+1)-B-k)<2 ^ (8*(D.length+1)-B):=by
 obtain⟨an,am,Q⟩:=h.last (by omega);have Z:=h.hi;simp only[dF,fW,hP,hR]at Z;generalize ag:8*(D.length+1)-B=f at Q ⊢;have ae:x*2 ^ (f-k)<2 ^ f:=by
  have:2 ^ f=2 ^ k*2 ^ (f-k):=by rw[<-nk,show k+(f-k)=f by omega]
  rw[this];exact Nat.mul_lt_mul_of_pos_right Y (v3 _)
 have aa:b.toNat+x*2 ^ (f-k)<256:=by
  have X:(256:Nat)=2 ^ f*2 ^ (8-f):=by rw[<-nk,show f+(8-f)=8 by omega]
  obtain⟨q,ab⟩:=Nat.dvd_of_mod_eq_zero Q;have S:b.toNat<2 ^ f*2 ^ (8-f):=by rw[<-X];omega
  rw[ab]at S ⊢;have aj:q<2 ^ (8-f):=Nat.lt_of_mul_lt_mul_left S;rw[X];have aq:2 ^ f*(q+1)<=2 ^ f*2 ^ (8-f):=Nat.mul_le_mul_left _ aj
  grind
 refine⟨⟨?_,by simp;omega,by simp;omega,?_⟩,aa,ae⟩
 .intro y H;rcases dG.1 H with H|H
  .exact h.z7 y (by simp[H])
  .grind
 .have O:=h.num;simp only[dF,fW,hP,hR]at O ⊢;rw[GG]at O ⊢;rw[ag]at O;rw[show 8*(D.length+1)-(B+k)=f-k by omega];have e:(b+(x*2 ^ (f-k):Nat)).toNat=b.toNat+x*2 ^ (f-k):=by omega
  rw[e,ha,tJ,<-nk,show k+(f-k)=f by omega];omega
variable {b:Nat}
def Rr{y f:Nat}(a:b%2 ^ f=0)(c:y<2 ^ f):b ||| y=b+y:=by
 obtain⟨d,rfl⟩:=Nat.dvd_of_mod_eq_zero a;rw[rQ,<-Nat.shiftLeft_eq,Nat.shiftLeft_add_eq_or_of_lt c]
def N1(n:Int):IntKind.wrap .u8 n=n%256:=rfl
def aaE(n:Int):IntKind.wrap .u64 n=n%18446744073709551616:=rfl
def P0{n:Nat}(h:n<256):IntKind.wrap .u8 (n:Int)=n:=by rw[N1];omega
def us{n:Nat}(h:n<18446744073709551616):IntKind.wrap .u64 (n:Int)=n:=by rw[aaE];omega
variable {a:Nat}
def acZ(d:a<256)(c:b<256):bT .or .u8 a b=((a ||| b:Nat):Int):=by
 show IntKind.wrap .u8 ((BitVec.ofNat 8 a ||| BitVec.ofNat 8 b).toNat:Int)=_;rw[BitVec.toNat_or,s6,s6,nj (show a<2 ^ 8 from d),nj (show b<2 ^ 8 from c)];exact P0 (Nat.or_lt_two_pow (n:=8) d c)
def T2(c:a<2 ^ 64)(d:b<2 ^ 64):bT .and .u64 a b=((a &&& b:Nat):Int):=by
 show IntKind.wrap .u64 ((BitVec.ofNat 64 a &&& BitVec.ofNat 64 b).toNat:Int)=_;rw[BitVec.toNat_and,s6,s6,nj c,nj d];exact us (Nat.lt_of_le_of_lt Nat.and_le_left c)
def Rs(c:a<2 ^ 64)(d:k<64):bT .and .u64 a ((2 ^ k-1:Nat):Int)=((a%2 ^ k:Nat):Int):=by
 have b:2 ^ k-1<2 ^ 64:=by have:=Nat.pow_lt_pow_right (show 1<2 by decide) d;omega
 rw[T2 c b,Nat.and_two_pow_sub_one_eq_mod]
theorem O4(a k:Nat):Int.fdiv (a:Int) (2 ^ k)=((a / 2 ^ k:Nat):Int):=by grind
def g5:List UInt8->List UInt8->Int
 |[],[]=>0
 |[],_::_=>-1
 |_::_,[]=>1
 |a::x,b::y=>if a=b then g5 x y else if a<b then -1 else 1
def QY(l:List UInt8)(i:Nat):(⟨l.toArray⟩:ByteArray)[i]! = l[i]!:=by
 by_cases a:i<l.length
 .rw[getElem!_pos l i a,getElem!_pos (⟨l.toArray⟩:ByteArray) i (by show i<l.toArray.size;simpa using a)];rfl
 .rw[getElem!_neg l i a,getElem!_neg (⟨l.toArray⟩:ByteArray) i (by show ¬i<l.toArray.size;simpa using a)]
theorem Yu:∀(x y:List UInt8),Go.Extern.BytealgCompare.cmp ⟨x.toArray⟩ ⟨y.toArray⟩=g5 x y:=by
 intro x y;unfold Go.Extern.BytealgCompare.cmp;simp only[QY]
 show(match(List.range (min x.length y.length)).find? λc=>x[c]! != y[c]! with
  |some c=>if x[c]!<y[c]! then -1 else 1
  |none=>if x.length<y.length then -1 else if x.length>y.length then 1 else 0)=g5 x y
 induction x generalizing y with
 |nil=>cases y<;>simp[g5]
 |cons a x d=>
  cases y with
  |nil=>simp[g5]
  |cons b y=>
   simp only[g5,fW];rw[show min (x.length+1) (y.length+1)=min x.length y.length+1 by omega,List.range_succ_eq_map,List.find?_cons];by_cases e:a=b
   .subst e;rw[bx rfl,<-d];simp only[List.getElem!_cons_zero,bne_self_eq_false,List.find?_map,Function.comp_def,Nat.succ_eq_add_one,List.getElem!_cons_succ]
    grind
   .grind
def L5:∀x:List UInt8,g5 x x=0
 |[]=>rfl
 |a::x=>by simp[g5,L5 x]
theorem Cq:∀x y:List UInt8,g5 y x =-g5 x y
 |[],[]=>rfl
 |[],_::_=>rfl
 |_::_,[]=>rfl
 |a::x,b::y=>by
  simp only[g5];by_cases c:a=b
  .subst c;simp[Cq x y]
  .grind
theorem Hf:∀{x y:List UInt8},g5 x y=0->x=y
 |[],[],_=>rfl
 |[],_::_,h=>by simp[g5]at h
 |_::_,[],h=>by simp[g5]at h
 |a::x,b::y,h=>by
  simp only[g5]at h;by_cases c:a=b
  .rw[bx c]at h;rw[c,Hf h]
  .grind
theorem Le:∀{x y d:List UInt8},0<g5 x y->0<g5 y d->0<g5 x d
 |[],[],_,h,_=>by simp[g5]at h
 |[],_::_,_,h,_=>by simp[g5]at h
 |_::_,[],d,_,h=>by cases d<;>simp[g5]at h
 |_::_,_::_,[],_,_=>by simp[g5]
 |a::x,b::y,c::d,h1,e=>by
  simp only[g5]at h1 e ⊢;by_cases f:a=b
  .subst f;rw[bx rfl]at h1;by_cases g:a=c
   .rw[bx g]at e ⊢;exact Le h1 e
   .grind
  .grind
structure k4(s:e4)(B V:Nat):Prop where
 b:s.Bits=B
 r:k3 s.Data B V
 t:8*s.Data.length<B+8
def k4.nil:k4 (e4.mk [] 0) 0 0:=⟨rfl,k3.nil,by simp⟩
theorem k4.split{s:e4}(h:k4 s B V)(H:8*s.Data.length≠B):∃i b,s.Data=i++[b]/\8*(i.length+1)=8*s.Data.length:=by
 have:=h.r.le;obtain⟨i,b,e⟩:=aaD (l:=s.Data) (by intro e;simp[e]at *;omega)
 grind
def M5(i:List α)(b:α){n:Int}(h:n=i.length):b6 (i++[b]) n=some b:=by subst h;exact iy i b []
def Xu(i:List α)(b c:α){n:Int}(h:n=i.length):gB (i++[b]) n c=some (i++[c]):=by
 subst h;unfold gB;rw[bx ⟨by omega,by simp;omega⟩];simp
def Wv{n:Nat}(h:n<=100000):Bw n=some (((n+7) / 8:Nat):Int):=by
 unfold Bw;have a:Int.tdiv ((n:Int)+7) 8=(((n+7) / 8:Nat):Int):=by rw[Int.tdiv_eq_ediv_of_nonneg (by omega)];omega
 rw[fv (n:=(n:Int)+7) (by omega) (by omega),a,fv (by omega) (by omega)]
theorem KP{s:e4}(h:k4 s B V)(x:B<=8192):xQ s=some true:=by
 have bt:=h.r.le;have u:=h.t;have f:=h.b
 refine aFo ?_;unfold xQ;refine aFj (λk=>k=false) (λk l=>?_) (λt z=>?_)
 .subst l;rw[bH,f,fv (n:=8*(s.Data.length:Int)) (by omega) (by omega),fv (n:=8*(s.Data.length:Int)-B) (by omega) (by omega)];refine Ok.cs (λ_=>Ok.s rfl) λc=>?_;have c:8*(s.Data.length:Int)-B≠0:=by simpa using c
  obtain⟨d,b,j,A⟩:=h.split (by omega);have g:=h.r;rw[j]at g;obtain⟨y,w,i⟩:=g.last (by omega);rw[fv (n:=(s.Data.length:Int)-1) (by omega) (by omega),j,M5 d b (by simp),aR];have p:8*((d++[b]).length:Int)-B=((8*(d.length+1)-B:Nat):Int):=by simp;omega
  rw[p];generalize v:8*(d.length+1)-B=a at i ⊢;rw[fv (n:=(8:Int)-(a:Int)) (by omega) (by omega)];refine aFt (by simp;omega) (Ok.s ?_);obtain⟨e,m⟩:=Nat.dvd_of_mod_eq_zero i;have r:min ((8:Int)-a).toNat 8=8-a:=by omega
  rw[r,show b=((b.toNat:Nat):Int)by omega,m];have o:(((2 ^ a*e:Nat):Int)*2 ^ (8-a))=((256*e:Nat):Int):=by
   have q:(256:Nat)=2 ^ a*2 ^ (8-a):=by rw[<-nk,show a+(8-a)=8 by omega]
   rw[q,tJ,rQ (2 ^ (8-a)) e,<-tJ]
   push_cast;rfl
  rw[o,N1];simp
 .rw[f,Wv (by omega)];refine Ok.cs (λc=>by simp at c;omega) λ_=>?_;refine Ok.cs (λc=>by simp at c;omega) λ_=>?_;rw[aR]
  grind
theorem Ww{s:e4}{v n:Nat}(h:k4 s B V)(Q:n<=64)(r:v<2 ^ n)(ab:B+n<=8192):Ok (Bx s v n) (λU=>k4 U (B+n) (V*2 ^ n+v)):=by
 unfold Bx;have P:v<2 ^ 64:=vZ r (v1 (by decide) Q)
 refine aFv (λj:Int×bX×Int=>∃(d k:Nat) (D:bX),j=((d:Int),D,((B+k:Nat):Int))/\d+k=n/\k3 D (B+k) (V*2 ^ k+v / 2 ^ d)/\8*D.length<B+k+8) (λj=>j.1.toNat) ⟨n,0,s.Data,by rw[h.b];rfl,by simp,by
   rw[vX r];simpa using h.r,by simpa using h.t⟩ (by simp only;omega) ?_
 rintro _ a4 ⟨d,k,D,rfl,am,i,t⟩ F;have bt:=i.le;simp only;refine Ok.cs (λg=>?_) λg=>?_
 .have z:0<d:=by simpa using g
  rw[fv (n:=8*(D.length:Int)) (by omega) (by omega),fv (n:=8*(D.length:Int)-((B+k:Nat):Int)) (by omega) (by omega)];refine aFj (λj:Int×bX=>∃(f:bX) (b:Int) (e:Nat),j=((e:Int),f++[b])/\k3 (f++[b]) (B+k) (V*2 ^ k+v / 2 ^ d)/\8*(f.length+1)-(B+k)=e/\1<=e/\e<=8) ?_ ?_
  .rintro _ ⟨f,b,e,rfl,l,u,ae,Y⟩;simp only;obtain⟨c,q⟩:∃c:Nat,(if(e:Int)<d then(e:Int)else d)=c/\1<=c/\c<=e/\c<=d:=by
    by_cases h:(e:Int)<d
    all_goals grind
   obtain⟨q,M,X,aj⟩:=q;rw[q];have R:a2 ((d:Int)-c)=((d-c:Nat):Int):=by rw[fv (by omega) (by omega)];omega
   have S:a2 ((e:Int)-c)=((e-c:Nat):Int):=by rw[fv (by omega) (by omega)];omega
   have G:a2 (((f++[b]).length:Int)-1)=f.length:=by
    have:=l.le;have:=l.hi
    simp at *;rw[fv (by omega) (by omega)]
   have I:a2 (((B+k:Nat):Int)+c)=((B+(k+c):Nat):Int):=by rw[fv (by omega) (by omega)];omega
   rw[R,S,G,I];refine aFt (by simp) (aFt (by simp) ?_);rw[M5 f b rfl,aR];refine aFt (by simp) ?_;have fB:=l.last (by omega);have J:Int.fdiv (v:Int) (2 ^ min ((d-c:Nat):Int).toNat 64)=((v / 2 ^ (d-c):Nat):Int):=by
    rw[show min ((d-c:Nat):Int).toNat 64=d-c by omega,O4]
   have H:IntKind.wrap .u64 (IntKind.wrap .u64 ((1:Int)*2 ^ min (c:Int).toNat 64)-1)=((2 ^ c-1:Nat):Int):=by
    rw[show min (c:Int).toNat 64=c by omega];have Z:2 ^ c<=2 ^ 8:=v1 (by decide) (by omega);have ak:0<2 ^ c:=v3 c;have:(1:Int)*2 ^ c=((2 ^ c:Nat):Int):=by push_cast;omega
    rw[this,us (by omega),show((2 ^ c:Nat):Int)-1=((2 ^ c-1:Nat):Int)by omega,us (by omega)]
   rw[J,H,Rs (Nat.lt_of_le_of_lt (Nat.div_le_self _ _) P) (by omega)];obtain⟨o,y,p⟩:=l.push (k:=c) (x:=v / 2 ^ (d-c)%2 ^ c) M (by omega) (Nat.mod_lt _ (v3 _));rw[u]at o y p;generalize A:v / 2 ^ (d-c)%2 ^ c=x at o y p ⊢;have L:(x:Int)*2 ^ min ((e-c:Nat):Int).toNat 64=((x*2 ^ (e-c):Nat):Int):=by
    rw[show min ((e-c:Nat):Int).toNat 64=e-c by omega];push_cast;rfl
   have C:x*2 ^ (e-c)<256:=by omega
   rw[L,us (by omega),P0 (by omega)];rw[u]at fB;have O:bT .or .u8 b ((x*2 ^ (e-c):Nat):Int)=b+((x*2 ^ (e-c):Nat):Int):=by
    obtain⟨ag,aa,E⟩:=fB;have:=acZ (a:=b.toNat) (b:=x*2 ^ (e-c)) (by omega) C;rw[show((b.toNat:Nat):Int)=b by omega]at this;rw[this,Rr E p];omega
   rw[O,Xu f b _ rfl,aR];refine F _ ⟨d-c,k+c,_,rfl,by omega,?_,?_⟩ (by simp only;omega)
   .rw[<-mD];have N:(V*2 ^ k+v / 2 ^ d)*2 ^ c+x=V*2 ^ (k+c)+v / 2 ^ (d-c):=by
     have d1:v / 2 ^ d=v / 2 ^ (d-c) / 2 ^ c:=by rw[Nat.div_div_eq_div_mul,<-nk,show d-c+c=d by omega]
     rw[ha,tJ,<-nk,d1,<-A];have:=Nat.div_add_mod (v / 2 ^ (d-c)) (2 ^ c);rw[rQ (2 ^ c)]at this;omega
    rw[<-N];exact o
   .simp;omega
  .intro W w;refine Ok.cs (λg=>?_) λg=>?_
   .have g:8*(D.length:Int)-((B+k:Nat):Int)=0:=by simpa using g
    rw[g9 (by simp;omega),aR];exact w _ ⟨D,0,8,rfl,i.more (by omega),by omega,by omega,by omega⟩
   .have g:8*(D.length:Int)-((B+k:Nat):Int)≠0:=by simpa using g
    have K:k4 (e4.mk D ((B+k:Nat):Int)) (B+k) (V*2 ^ k+v / 2 ^ d):=⟨rfl,i,t⟩;obtain⟨f,b,m,T⟩:=K.split (by simp only;omega);simp only at m T;refine w _ ⟨f,b,8*D.length-(B+k),?_,by rw[<-m];exact i,by omega,by omega,by omega⟩;rw[<-m];simp;omega
 .have z:d=0:=by simpa using g
  subst z;obtain rfl:k=n:=by omega
  refine Ok.s ⟨rfl,?_,by simpa using t⟩;simpa using i
def Wh{s:e4}{v n:Nat}(h:k4 s B V)(j:n<=64)(d:v<2 ^ n)(g:B+n<=8192):Ok (Bj s v n) (λb=>k4 b.1 (B+n) (V*2 ^ n+v)/\b.2=0):=by
 unfold Bj;have bt:=h.r.le;have f:=h.t;have c:=h.b
 rw[KP h (by omega),aR];simp only[dk,bH];refine aFj (λv=>v=false) (λm i=>?_) λl e=>?_
 .subst i;rw[bH,c,fv (by omega) (by omega)];refine Ok.cs (λa=>by simp at a;omega) λ_=>?_;unfold Fa;rw[g9 (by simp;omega),aR,aR];refine Ok.af (Ww (B:=B) (V:=V) (s:=e4.mk ([]++s.Data) s.Bits) ⟨c,by simpa using h.r,by simpa using f⟩ j d g) λb k=>Ok.s ⟨k,rfl⟩
 .refine Ok.cs (λa=>by simp at a;omega) λ_=>?_;refine Ok.cs (λa=>by simp at a;omega) λ_=>?_;refine Ok.cs (λa=>?_) λ_=>e _ rfl;have o:n<64:=by simp at a;omega
  refine aFt (by simp) (e _ ?_);rw[show min ((n:Nat):Int).toNat 64=n by omega,O4,vX d];simp
def T3(x:Int):∃n:Nat,bT .and .u64 x 65535=n/\n<65536:=by
 refine⟨(BitVec.ofInt 64 x &&& BitVec.ofInt 64 65535).toNat,?_,?_⟩
 .show IntKind.wrap .u64 _=_;exact us (BitVec.isLt _)
 .rw[BitVec.toNat_and];exact Nat.lt_of_le_of_lt Nat.and_le_right (by decide)
def T4{n:Nat}(h:n<65536):∃m:Nat,bT .xor .u64 n 4129=m/\m<65536:=by
 refine⟨n ^^^ 4129,?_,Nat.xor_lt_two_pow (n:=16) h (by decide)⟩;show IntKind.wrap .u64 ((BitVec.ofNat 64 n ^^^ BitVec.ofNat 64 4129).toNat:Int)=_;rw[BitVec.toNat_xor,s6,s6,nj (show n<2 ^ 64 by omega),nj (show 4129<2 ^ 64 by decide)];exact us (Nat.lt_trans (Nat.xor_lt_two_pow (n:=16) h (by decide)) (by decide))
def jv:Nat->List (Nat×Nat)->Nat
 |a,[]=>a
 |a,(v,w)::r=>jv (a*2 ^ w+v) r
def gC:List (Nat×Nat)->Nat
 |[]=>0
 |(_,w)::r=>w+gC r
def yP:∀(a:Nat) (F G:List (Nat×Nat)),jv a (F++G)=jv (jv a F) G
 |_,[],_=>rfl
 |a,(v,w)::r,G=>yP _ r G
def vm:∀(F G:List (Nat×Nat)),gC (F++G)=gC F+gC G
 |[],G=>by simp[gC]
 |(v,w)::r,G=>by simp only[l6,gC,vm r G];omega
def pz(l:Int):Nat:=if l=8 then 0 else if l=16 then 1 else if l=32 then 2 else 3
variable {β:Type}
def qh{σ:Type}(F:(σ->Option β)->σ->Option β)(n:Nat)(s:σ):iter F (n+1) s=F (iter F n) s:=rfl
def Xv{l:Int}(h:fM l=true)(R:Int->Option β):gu (λ(a4:Int->Option β) (c:Int)=>eD (decide (0<=c))<|bif decide (IntKind.wrap .i64 ((8:Int)*2 ^ min c.toNat 64)<l)then a4 (a2 (c+1))else R c) 0=R (pz l:Int):=by
 simp only[fM,kZ,eY]at h;show iter _ (1099511627772+4) 0=_;have d:a2 (0+1)=1:=by decide
 have f:a2 (1+1)=2:=by decide
 have i:a2 (2+1)=3:=by decide
 have a:IntKind.wrap .i64 ((8:Int)*2 ^ min (0:Int).toNat 64)=8:=by decide
 have b:IntKind.wrap .i64 ((8:Int)*2 ^ min (1:Int).toNat 64)=16:=by decide
 have e:IntKind.wrap .i64 ((8:Int)*2 ^ min (2:Int).toNat 64)=32:=by decide
 have g:IntKind.wrap .i64 ((8:Int)*2 ^ min (3:Int).toNat 64)=64:=by decide
 rcases h with rfl|rfl|rfl|rfl
 .rw[qh,jT (by decide),a];rfl
 .rw[qh,jT (by decide),a,d];simp only[show decide ((8:Int)<16)=true from rfl,cm];rw[qh,jT (by decide),b];rfl
 .rw[qh,jT (by decide),a,d];simp only[show decide ((8:Int)<32)=true from rfl,cm];rw[qh,jT (by decide),b,f];simp only[show decide ((16:Int)<32)=true from rfl,cm];rw[qh,jT (by decide),e];rfl
 .rw[qh,jT (by decide),a,d];simp only[show decide ((8:Int)<64)=true from rfl,cm];rw[qh,jT (by decide),b,f];simp only[show decide ((16:Int)<64)=true from rfl,cm];rw[qh,jT (by decide),e,i];simp only[show decide ((32:Int)<64)=true from rfl,cm];rw[qh,jT (by decide),g];rfl
def QZ(c:Bool)(K:Int->Option β):jn K (λJ=>bif c then J 1 else J 0)=K (bif c then 1 else 0):=by cases c<;>rfl
def ry(x:ew):List (Nat×Nat):=[(x.ez.toNat,7),(x.kW.toNat,10),(x.fo.toNat,10)]
def te(x:fx):List (Nat×Nat):=[(x.bA.toNat,3),(x.aP.toNat,9),(pz x.Length,2)]
def tM(a:a6):List (Nat×Nat):=[(a.ai.toNat,7),(a.Seq.toNat,20),((bif a.bK then 1 else 0),1),(a.Links.length,5)]
def ot(a:a6):List (Nat×Nat):=(tM a++a.Links.flatMap ry)++(a.Claims.length,4)::a.Claims.flatMap te
def O5:∀l:BP,gC (l.flatMap ry)=27*l.length
 |[]=>rfl
 |x::l=>by rw[nt,vm,O5 l,fW];simp only[ry,gC];omega
def O6:∀l:zo,gC (l.flatMap te)=14*l.length
 |[]=>rfl
 |x::l=>by rw[nt,vm,O6 l,fW];simp only[te,gC];omega
def Yv{s:e4}{i:Nat}(f:∀b∈s.Data,0<=b/\b<256)(hi:i<8*s.Data.length)(g:i<=100000):Ok (BQ s (i:Int)) (λ_=>True):=by
 have c:Int.tdiv (i:Int) 8=((i / 8:Nat):Int):=by rw[Int.tdiv_eq_ediv_of_nonneg (by omega)];omega
 have d:Int.tmod (i:Int) 8=((i%8:Nat):Int):=by rw[Int.tmod_eq_emod_of_nonneg (by omega)];omega
 have a:(7:Int)-((i%8:Nat):Int)=((7-i%8:Nat):Int):=by omega
 obtain⟨h,e,j,_⟩:=(n2 (l:=s.Data) (i:=((i / 8:Nat):Int)) (by omega) (by omega)).get;unfold BQ;rw[c,d,a,fv (by omega) (by omega),e,aR,fv (by omega) (by omega),jT (by simp)];exact Ok.s trivial
theorem Xe{s:e4}(h:k4 s B V)(k:B<=8192):Ok (By s) (λp=>∃c:Nat,c<65536/\p=((c:Int),0)):=by
 have bt:=h.r.le;have t:=h.t;have r:=h.b
 unfold By;rw[KP h k,aR];simp only[dk,bH];refine aFt (by simp;omega) ?_;refine aFA (λ_ (a:Int)=>∃c:Nat,c<65536/\a=c) 0 s.Bits ?_ ?_ _ _ _ (by simp) (by omega) (by omega) ⟨65535,by decide,rfl⟩
 .rintro i a a4 n g ⟨c,d,rfl⟩ j;refine aFj (λa=>∃c:Nat,c<65536/\a=c) (λa f=>j _ f) λq l=>?_;obtain⟨x,b,_⟩:=Yv (s:=s) (i:=i.toNat) h.r.z7 (by omega) (by omega);rw[show((i.toNat:Nat):Int)=i by omega]at b;rw[b,aR];obtain⟨o,m,e⟩:=T3 (IntKind.wrap .u64 ((c:Int)*2 ^ min (1:Int).toNat 64));rw[m];refine Ok.cs (λ_=>l _ ⟨o,e,rfl⟩) λ_=>?_;obtain⟨w,v,u⟩:=T4 e
  grind
 .rintro i a n g ⟨c,d,rfl⟩;exact Ok.s ⟨c,d,rfl⟩
theorem nD{w:k8}{n:Nat}{v:Int}(h:k4 w.e8 B V)(j:0<=v)(b:n<=64)(g:v<2 ^ n)(d:B+n<=8192):Ok (k5 w v n) (λf=>k4 f.e8 (B+n) (V*2 ^ n+v.toNat)):=by
 have a:v.toNat<2 ^ n:=by grind
 have i:v.toNat<2 ^ 64:=vZ a (v1 (by decide) b);unfold k5;have e:IntKind.wrap .u64 v=((v.toNat:Nat):Int):=by
  have:=us (n:=v.toNat) (by omega)
  rwa [show((v.toNat:Nat):Int)=v by omega]at this ⊢
 rw[e];exact Ok.af (Wh h b a d) λk c=>Ok.s c.1
def GH{a:a6}(h:eC a=true):Ok (pY a) (λp=>p.2=0/\∃c,c<65536/\k3 p.1 (gC (ot a++[(c,16)])) (jv 0 (ot a++[(c,16)]))):=by
 have I:=py h;have m:=h;simp only[eC,dT,b9,eY,gE]at m;obtain⟨⟨⟨⟨⟨N,M⟩,⟨J,L⟩⟩,O⟩,⟨y,_⟩⟩,⟨K,A,_⟩⟩:=m;unfold pY;rw[vl,h,aR];simp only[dk,bH,QZ];refine Ok.af (nD (w:=k8.mk (e4.mk [] 0)) (n:=7) k4.nil (by omega) (by omega) (by omega) (by omega)) λP t1=>?_;refine Ok.af (nD (n:=20) t1 (by omega) (by omega) (by omega) (by omega)) λQ t2=>?_;have k:(0<=(bif a.bK then(1:Int)else 0)/\(bif a.bK then(1:Int)else 0)<2)/\(bif a.bK then(1:Int)else 0).toNat=(bif a.bK then 1 else 0):=by cases a.bK<;>decide
 generalize (bif a.bK then(1:Int)else 0)=x at k ⊢;obtain⟨k,C⟩:=k;refine Ok.af (nD (n:=1) t2 (by omega) (by omega) (by omega) (by omega)) λR t3=>?_;refine Ok.af (nD (n:=5) t3 (by omega) (by omega) (by omega) (by omega)) λS t4=>?_
 refine aFg (λb (e:bX×Int)=>k4 (e4.mk e.1 e.2) (33+27*b.length) (jv 0 (tM a++b.flatMap ry))) ?_ _ (by
   have:jv 0 (tM a++([]:BP).flatMap ry)=(((0*2 ^ 7+a.ai.toNat)*2 ^ 20+a.Seq.toNat)*2 ^ 1+x.toNat)*2 ^ 5+(a.Links.length:Int).toNat:=by rw[C];rfl
   rw[this];exact t4) ?_
 .rintro b i E ⟨D,d⟩ a4 f l j;have g:=y i (by rw[f];simp);have u:b.length<a.Links.length:=by rw[f];simp
  simp only[px,dT,b9,eY]at g;refine Ok.af (nD (w:=k8.mk (e4.mk D d)) (n:=7) l (by omega) (by omega) (by omega) (by omega)) λs f1=>?_;refine Ok.af (nD (n:=10) f1 (by omega) (by omega) (by omega) (by omega)) λt f2=>?_;refine Ok.af (nD (n:=10) f2 (by omega) (by omega) (by omega) (by omega)) λv f3=>j _ ?_;rw[dF,uc,show 33+27*(b.length+1)=33+27*b.length+7+10+10 by omega,ox,<-jt,yP];exact f3
 rintro⟨D,d⟩ t5;refine Ok.af (nD (w:=k8.mk (e4.mk D d)) (n:=4) t5 (by omega) (by omega) (by omega) (by omega)) λG t6=>?_
 refine aFg (λb (e:bX×Int)=>k4 (e4.mk e.1 e.2) (37+27*a.Links.length+14*b.length) (jv 0 ((tM a++a.Links.flatMap ry)++(a.Claims.length,4)::b.flatMap te))) ?_ _ (by
   rw[show 37+27*a.Links.length+14*([]:zo).length=33+27*a.Links.length+4 by simp;omega,yP];exact t6) ?_
 .rintro b i E ⟨D,d⟩ a4 f l j;have g:=A i (by rw[f];simp);have u:b.length<a.Claims.length:=by rw[f];simp
  simp only[iM,dT,b9,eY]at g;have F:pz i.Length<4:=by unfold pz;split;omega;split;omega;split<;>omega
  simp only;rw[Xv g.2];refine Ok.af (nD (w:=k8.mk (e4.mk D d)) (n:=3) l (by omega) (by omega) (by omega) (by omega)) λs f1=>?_;refine Ok.af (nD (n:=9) f1 (by omega) (by omega) (by omega) (by omega)) λt f2=>?_;refine Ok.af (nD (n:=2) f2 (by omega) (by omega) (by omega) (by omega)) λv f3=>j _ ?_;rw[dF,uc,show 37+27*a.Links.length+14*(b.length+1)=37+27*a.Links.length+14*b.length+3+9+2 by omega,ox,<-l6,<-jt,yP];exact f3
 rintro⟨z,B⟩ t7;refine Ok.af (Xe t7 (by omega)) λp q=>?_;obtain⟨c,r,rfl⟩:=q;rw[fv (by omega) (by omega)];refine Ok.af (nD (w:=k8.mk (e4.mk z B)) (n:=16) t7 (by omega) (by omega) (by omega) (by omega)) λH t8=>Ok.s ⟨rfl,c,r,?_⟩;have o:gC (ot a++[(c,16)])=37+27*a.Links.length+14*a.Claims.length+16:=by
  rw[vm,ot,vm,vm,O5];simp only[gC,O6,tM];omega
 rw[o,yP];exact t8.r
end
section
def m6(l:bX):List UInt8:=l.map λa=>UInt8.ofNat a.toNat
def jw(a:a6):bX:=match pY a with|some p=>p.1|none=>[]
def hh(a b:a6):Bool:=decide (b.Seq<a.Seq)||(decide (a.Seq=b.Seq)&&decide (0<g5 (m6 (jw a)) (m6 (jw b))))
def m7(a b:a6):Bool:=eC a&&(eC b&&(decide (a.ai=b.ai)&&hh a b))
variable {a:a6}
def aaF(h:eC a=true):pY a=some (jw a,0):=by
 obtain⟨⟨l,c⟩,b,rfl,_⟩:=GH h;unfold jw;rw[b]
def aaG(x y:bX):JO x y=g5 (m6 x) (m6 y):=Yu _ _
def Yw(a b:a6):Bk a b=some (m7 a b):=by
 unfold Bk m7
 have h:∀a,∃d,pY a=some d/\(eC a=true->d=(jw a,0))/\(eC a=false->d.2=1):=λa=>by
  cases c:eC a
  .refine⟨([],1),?_,λc=>by simp at c,λ_=>rfl⟩;unfold pY;rw[vl,c];rfl
  .exact⟨_,aaF c,λ_=>rfl,λc=>by simp at c⟩
 obtain⟨d,k,m,n⟩:=h a;obtain⟨q,l,p,o⟩:=h b;simp only[k,l,aR];cases f:eC a
 .simp[n f]
 cases e:eC b
 .simp[o e]
 rw[m f,p e];by_cases g:a.ai=b.ai
 .simp only[g,ef,dk,ow,bH,hq,hh];by_cases j:b.Seq<a.Seq
  .simp[j]
  .by_cases i:a.Seq=b.Seq
   .simp only[i,ef,cm,Fv,aR,aaG];simp
   .simp[j,i]
 .simp[g]
def oP(r:Int)(l:td):td:=l.filter λa=>decide (a.ai<r)
def mj(r:Int)(l:td):td:=l.filter λa=>decide (r<a.ai)
def rT(d:bM)(a:a6):bM:=bM.mk (oP a.ai d.bq++a::mj a.ai d.bq)
def aaH(r:Int)(l m:td):oP r (l++m)=oP r l++oP r m:=lB ..
def aaI(r:Int)(l m:td):mj r (l++m)=mj r l++mj r m:=lB ..
variable {l:td}{r:Int}
def aaJ(h:∀x∈l,x.ai<r):oP r l=l:=zU.2 λx a=>by simpa using h x a
def Yx(h:∀x∈l,r<=x.ai):oP r l=[]:=qB.2 λx a=>by simpa using h x a
def aaK(h:∀x∈l,r<x.ai):mj r l=l:=zU.2 λx a=>by simpa using h x a
def Yy(h:∀x∈l,x.ai<=r):mj r l=[]:=qB.2 λx a=>by simpa using h x a
def uq(d:bM):Prop:=d.bq.Pairwise (λa b=>a.ai<b.ai)
def jx(d:bM)(a:a6):bM×Bool:=
 bif (hI d a.ai).2&&!m7 a (hI d a.ai).1 then(d,false)else(rT d a,true)
theorem abD(l:td)(x:Int)(c:a6->Int->ir)(f:a6->Int)(e:l.length<=1000000)(a:∀r,c r x=some (f r)):z8 l x c=some ((jC f l:Int),kO f l):=by
 unfold z8;refine G9 l f e λi j a4 g=>?_;by_cases b:i<j
 .rw[dif_pos b];simp only[G8 (i:=i) (j:=j) (by omega),rJ (show(i+j) / 2<l.length by omega),aR,a,o5];rw[bx (by omega),fv (by omega) (by omega)];rfl
 .rw[dif_neg b];simp only[o5];rw[bw (by omega)];by_cases d:i<l.length
  .rw[bx (by omega),rJ d];simp only[aR,a];simp[d]
  .grind
def aaL(x:a6)(r:Int):A4 x r=some (eB x.ai r):=by
 unfold A4;rw[y6,aR]
def Gt(x y:Int):(eB x y<0↔x<y)/\(eB x y=0↔x=y):=by
 unfold eB;split
 all_goals omega
def NH{d:bM}(c:uq d)(r:Int):∀a b:Nat,a<=b->b<d.bq.length->eB (el d.bq a).ai r<=eB (el d.bq b).ai r:=
 Jh (f:=λe:a6=>eB e.ai r) (c.imp λg=>by
  unfold eB;split<;>split<;>(try split)<;>(try split)<;>omega)
theorem Yz{d:bM}(k:uq d)(r:Int):d.bq.take (jC (λx:a6=>eB x.ai r) d.bq)=oP r d.bq/\
  (kO (λx:a6=>eB x.ai r) d.bq=(hI d r).2)/\jC (λx:a6=>eB x.ai r) d.bq<=d.bq.length/\
  ((hI d r).2=false->d.bq.drop (jC (λx:a6=>eB x.ai r) d.bq)=mj r d.bq)/\
  ((hI d r).2=true->d.bq.drop (jC (λx:a6=>eB x.ai r) d.bq)=(hI d r).1::mj r d.bq):=by
 obtain⟨C,q,u⟩:=MW (f:=λx:a6=>eB x.ai r) (NH k r);have D:=Hd (f:=λx:a6=>eB x.ai r) (NH k r);generalize jC (λx:a6=>eB x.ai r) d.bq=n at C q u ⊢
 have v:∀x∈d.bq.take n,x.ai<r:=λx b=>by
  obtain⟨c,o,rfl⟩:=qD b;rw[hg]at o;have:=q c (by omega);rw[ti (by omega)]at this;rw[List.getElem_take];exact(Gt _ _).1.1 this
 have w:∀x∈d.bq.drop n,r<=x.ai:=λx b=>by
  obtain⟨c,o,rfl⟩:=qD b;rw[l2]at o;have:=u (n+c) (by omega) (by omega);rw[ti (by omega)]at this;rw[List.getElem_drop];have h:=(Gt (d.bq[n+c]).ai r).1;have E:¬eB (d.bq[n+c]).ai r<0:=by omega
  rw[h]at E;omega
 have s:=o6 n d.bq;have H:oP r d.bq=d.bq.take n:=by
  conv=>lhs;rw[<-s]
  rw[aaH,aaJ v,Yx w,l5]
 have B:mj r d.bq=mj r (d.bq.drop n):=by
  conv=>lhs;rw[<-s]
  rw[aaI,Yy (l:=d.bq.take n) (λx b=>by have:=v x b;omega),lC]
 have F:kO (λx:a6=>eB x.ai r) d.bq=(hI d r).2:=by
  rw[ns,D];simp only[(Gt _ _).2];rcases p9 d r with⟨a,p,m,j⟩|⟨A,j⟩
  all_goals grind
 refine⟨H.symm,F,C,λj=>?_,λj=>?_⟩
 .rw[B,aaK];intro x b;rcases p9 d r with⟨a,p,m,g⟩|⟨A,g⟩
  all_goals grind
 .rcases p9 d r with⟨a,p,m,g⟩|⟨A,g⟩
  .rw[g,B];have e:a∈d.bq.drop n:=by grind
   have i:(d.bq.drop n).Pairwise (λa G=>a.ai<G.ai):=List.Pairwise.sublist (List.drop_sublist n _) k;cases z:d.bq.drop n with
   |nil=>rw[z]at e;simp at e
   |cons y t=>
    rw[z]at i e w;rw[fI]at i;rcases c5.1 e with h|h
    .subst h;show _=a::(a::t).filter _;rw[Dz (by simp[m])];congr 1;exact(zU.2 λx b=>by have:=i.1 x b;simp;omega).symm
    .grind
  .grind
theorem N2{d:bM}(n:uq d)(p:d.bq.length<=100000)(f:yo a):xK d a=some ((jx d a).2,(jx d a).1):=by
 unfold xK;rw[abD d.bq a.ai _ (λc=>eB c.ai a.ai) (by omega) (λc=>aaL c _),aR];obtain⟨i,j,q,k,l⟩:=Yz n a.ai;simp only[jn,j];generalize jC (λc:a6=>eB c.ai a.ai) d.bq=b at *;unfold jx rT;cases g:(hI d a.ai).2
 .simp only[js,cm,tZ,bH,Cp f,aR];have:wk d.bq (b:Int) a=some (oP a.ai d.bq++a::mj a.ai d.bq):=by
   unfold wk;rw[bx ⟨⟨by omega,by omega⟩,by unfold aY;omega⟩,rW,i,k g]
  rw[this,aR]
 .have h:=l g;have e:b<d.bq.length:=by grind
  have o:d.bq[b]=(hI d a.ai).1:=by
   rw[r3 e]at h
   grind
  have m:b6 d.bq (b:Int)=some (hI d a.ai).1:=by
   rw[<-o];unfold b6;rw[bx (by omega)];simp[e]
  simp only[dk,bH,m,aR,Yw,hq];cases r:m7 a (hI d a.ai).1
  .rfl
  .simp only[cm,Cp f,aR,dk,bH];have:gB d.bq (b:Int) a=some (oP a.ai d.bq++a::mj a.ai d.bq):=by
    unfold gB;rw[bx ⟨by omega,by omega⟩,rW,List.set_eq_take_append_cons_drop,bx e,i];rw[r3 e]at h
    grind
   rw[this,aR]
def M6{d:bM}(e:pa d):xm d=some d:=by
 refine aFo ?_;unfold xm;refine aFg (λb (a:td)=>a=b) ?_ _ rfl (λa i=>Ok.s (by rw[i]));rintro b f r a a4 c rfl h;have g:f∈d.bq:=by rw[c];simp
 have j:a.length<d.bq.length:=by rw[c];simp
 have:=e.1;rw[Cp (e.2 f g),aR,g9 (by simp;omega),aR];exact h _ rfl
def Q0{d:bM}(c:pa d)(e:yo a):Bl d a=some (if nG d=0/\eC a=true then jx d a else(d,false)):=by
 unfold Bl;simp only[jn,M6 c,yO,vl,aR];by_cases b:nG d=0
 .cases f:eC a
  .simp[b]
  .simp only[b,ef,dk,bH,and_self,fE];rw[N2 (n4.1 b).ic c.1 e,aR]
 .simp[b]
end
section
def NI:∀(l:td) (c:Int),l.Pairwise (λa b=>a.ai<b.ai)->(∀x∈l,c<=x.ai/\x.ai<=99)->(l.length:Int)<=max 0 (100-c)
 |[],c,_,_=>by simp;omega
 |x::r,c,h,d=>by
  rw[fI]at h;have g:=d x (by simp);have:=NI r (x.ai+1) h.2 λf e=>⟨by have:=h.1 f e;omega,(d f (by simp[e])).2⟩;simp only[fW];omega
def T6{d:bM}(c:∀a∈d.bq,eC a=true)(b:uq d):eK d:=by
 refine⟨?_,c,b⟩;have:=NI d.bq 1 b λf e=>(py (c f e)).r;omega
variable {a:a6}
theorem CB{d:bM}{x:a6}:x∈(rT d a).bq↔x=a\/(x∈d.bq/\x.ai≠a.ai):=by
 simp only[rT,dG,c5,oP,mj,gz,eY]
 grind
def YA{d:bM}(h:uq d)(a:a6):uq (rT d a):=by
 unfold uq rT;simp only;refine mG.2 ⟨List.Pairwise.sublist pN h,fI.2 ⟨λc b=>by simpa [mj]using (gz.1 b).2,List.Pairwise.sublist pN h⟩,λg e c b=>?_⟩;have f:g.ai<a.ai:=by simpa using (gz.1 e).2
 rcases c5.1 b with rfl|b
 .exact f
 .have:a.ai<c.ai:=by simpa using (gz.1 b).2
  omega
def eK.with{d:bM}(h:eK d){a:a6}(H:eC a=true):eK (rT d a):=
 T6 (λx O=>by rcases CB.1 O with rfl|⟨Q,_⟩;exact H;exact h.ok x Q) (YA h.ic a)
def eK.put{d:bM}(h:eK d)(H:eC a=true):eK (jx d a).1:=by
 unfold jx;cases(hI d a.ai).2&&!m7 a (hI d a.ai).1
 .exact h.with H
 .exact h
def look(d:bM)(r:Int):vr:=bif (hI d r).2 then some (hI d r).1 else none
variable {r:Int}
theorem m2{d:bM}(h:eK d):look d r=some a↔a∈d.bq/\a.ai=r:=by
 unfold look;constructor
 .intro k;rcases p9 d r with⟨b,g,j,e⟩|⟨i,e⟩
  all_goals grind
 .rintro⟨f,c⟩;rw[h.key f c];rfl
theorem L6{d:bM}:look d r=none↔∀a∈d.bq,a.ai≠r:=by
 unfold look;rcases p9 d r with⟨b,e,g,c⟩|⟨f,c⟩
 all_goals grind
def YB{d e:bM}(j:eK d)(g:eK e)(h:∀r,look d r=look e r):d=e:=by
 have:d.bq=e.bq:=yw (r:=λa b:a6=>a.ai<b.ai) (λa=>Int.lt_irrefl _) (λa b k=>Int.lt_trans) j.ic g.ic λc=>by
  have f:=m2 j (r:=c.ai) (a:=c);have i:=m2 g (r:=c.ai) (a:=c);rw[h]at f;simp only[and_true]at f i;exact f.symm.trans i
 cases d;cases e;simp only at this;rw[this]
def hT(o:vr)(a:a6):a6:=match o with|none=>a|some x=>bif m7 a x then a else x
theorem Gu{d:bM}(h:eK d)(i:eC a=true)(r:Int):look (jx d a).1 r=if r=a.ai then some (hT (look d r) a)else look d r:=by
 have j:∀r,look (rT d a) r=if r=a.ai then some a else look d r:=λr=>by
  by_cases c:r=a.ai
  .rw[bx c];exact(m2 (h.with i)).2 ⟨CB.2 (.inl rfl),c.symm⟩
  .rw[bw c];cases e:look d r with
   |none=>
    rw[L6]at e ⊢;intro l n;rcases CB.1 n with rfl|⟨g,_⟩
    .omega
    .exact e l g
   |some l=>
    obtain⟨g,o⟩:=(m2 h).1 e;exact(m2 (h.with i)).2 ⟨CB.2 (.inr ⟨g,by omega⟩),o⟩
 unfold jx;rcases p9 d a.ai with⟨b,m,q,f⟩|⟨p,f⟩
 .rw[f];have jj:look d a.ai=some b:=(m2 h).2 ⟨m,q⟩;cases k:m7 a b
  .simp only[js,up,cm];by_cases c:r=a.ai
   .subst c;rw[bx rfl,jj];simp[hT,k]
   .rw[bw c]
  .simp only[dk,Bool.and_false,bH];rw[j];by_cases c:r=a.ai
   .subst c;rw[bx rfl,bx rfl,jj];simp[hT,k]
   .grind
 .rw[f];simp only[tZ,bH];rw[j];by_cases c:r=a.ai
  .subst c;rw[bx rfl,bx rfl,L6.2 p];rfl
  .grind
def Wx{x y d:List UInt8}(e:¬0<g5 x y)(c:¬0<g5 y d):¬0<g5 x d:=by
 intro b;rcases Int.lt_trichotomy (g5 x y) 0 with a|a|a
 .have:0<g5 y x:=by rw[Cq];omega
  exact c (Le this b)
 .rw[Hf a]at b;exact c b
 .exact e a
def x5(a:a6):hh a a=false:=by simp[hh,L5]
variable {b:a6}
def yp(h:hh a b=true):hh b a=false:=by
 simp only[hh,kZ,b9,eY]at h;simp only[hh,kj,BY,iz];rcases h with h|⟨d,c⟩
 .omega
 .exact⟨by omega,.inr (by rw[Cq];omega)⟩
def KQ{c:a6}(j:hh a b=false)(f:hh b c=false):hh a c=false:=by
 simp only[hh,kj,BY,iz]at *;refine⟨by omega,?_⟩;by_cases g:a.Seq=c.Seq
 .right;have h:a.Seq=b.Seq:=by omega
  have i:b.Seq=c.Seq:=by omega
  rcases j.2 with e|e
  .exact absurd h e
  rcases f.2 with d|d
  .exact absurd i d
  exact Wx e d
 .exact .inl g
def jO(a b:bM):bM:=b.bq.foldl (λd c=>(jx d c).1) a
def L7{α β:Type}{f:β->α->β}{P:β->Prop}:∀(l:List α) (b:β),P b->(∀b x,x∈l->P b->P (f b x))->P (l.foldl f b)
 |[],b,h,_=>h
 |x::l,b,h,a=>by
  simp only[List.foldl_cons];exact L7 l _ (a b x (by simp) h) λb d c=>a b d (by simp[c])
def eK.merge{a b:bM}(O:eK a)(H:eK b):eK (jO a b):=
 L7 (P:=eK) b.bq a O λd x Q h=>h.put (H.ok x Q)
theorem Xf{a b:bM}(j:eK a)(g:eK b)(r:Int):look (jO a b) r=match look b r with|none=>look a r|some y=>some (hT (look a r) y):=by
 have n:∀(c:td) (e:bM),eK e->(∀d∈c,eC d=true)->c.Pairwise (λa b=>a.ai<b.ai)->
   look (c.foldl (λo m=>(jx o m).1) e) r=match c.find? (λd=>decide (d.ai=r))with|none=>look e r|some y=>some (hT (look e r) y):=by
  intro c;induction c with
  |nil=>intro e _ _ _;rfl
  |cons d c l=>
   intro e i f h;rw[fI]at h;simp only[List.foldl_cons];rw[l _ (i.put (f d (by simp))) (λy k=>f y (by simp[k])) h.2,Gu i (f d (by simp)),List.find?_cons];by_cases p:r=d.ai
   .grind
   .grind
 unfold jO;rw[n b.bq a j g.ok g.ic];unfold look hI
 grind
def vi.sm(h:eC a=true):yo a:=by have:=py h;exact⟨by have:=this.n;omega,by have:=this.Eg;omega⟩
def YC{a:bM}(j:pa a)(b:bM):A5 a b=some (if nG a=0/\nG b=0 then(jO a b,0)else(bM.mk [],1)):=by
 unfold A5;simp only[jn,yO,M6 j,aR];by_cases d:nG a=0
 .by_cases f:nG b=0
  .simp only[d,f,ef,dk,bH,and_self,fE];refine aFo ?_;refine aFg (λh (c:td)=>bM.mk c=h.foldl (λc m=>(jx c m).1) a/\eK (bM.mk c)) ?_ _ ⟨rfl,n4.1 d⟩ (λc g=>Ok.s (by rw[g.1];rfl));rintro h n r c a4 k ⟨g,e⟩ l;have i:=(n4.1 f).ok n (by rw[k];simp);rw[N2 e.ic (by have:=e.n;omega) (vi.sm i),aR];exact l _ ⟨by rw[List.foldl_append,<-g];rfl,e.put i⟩
  .simp[d,f]
 .simp[d]
end
section
structure Holds(N T:Nat)(F:List (Nat×Nat)):Prop where
 w:gC F<=T
 b:∀p∈F,p.1<2 ^ p.2
 v:N=jv 0 F*2 ^ (T-gC F)
def CC:∀(a:Nat) (F:List (Nat×Nat)),jv a F=a*2 ^ gC F+jv 0 F
 |a,[]=>by simp[jv,gC]
 |a,(v,w)::r=>by
  simp only[jv,gC];rw[CC (a*2 ^ w+v) r,CC (0*2 ^ w+v) r,ha,tJ,<-nk,Nat.zero_mul,hR];omega
def Nb:∀(F:List (Nat×Nat)),(∀p∈F,p.1<2 ^ p.2)->jv 0 F<2 ^ gC F
 |[],_=>by simp[jv,gC]
 |(v,w)::r,h=>by
  simp only[jv,gC];rw[CC];have d:=Nb r λp a=>h p (by simp[a]);have b:v<2 ^ w:=h (v,w) (by simp);have c:(v+1)*2 ^ gC r<=2 ^ w*2 ^ gC r:=hp _ b;rw[ha,qv,<-nk]at c;simp only[Nat.zero_mul,hR];omega
def Holds.JK{N T v w:Nat}{r:List (Nat×Nat)}(h:Holds N T ((v,w)::r)):v=N / 2 ^ (T-w)/\Holds (N%2 ^ (T-w)) (T-w) r:=by
 have Z:w+gC r<=T:=h.w;have O:∀p∈r,p.1<2 ^ p.2:=λp S=>h.b p (by simp[S]);have H:=h.v;have e:jv 0 ((v,w)::r)=v*2 ^ gC r+jv 0 r:=by
  show jv (0*2 ^ w+v) r=_;rw[CC,Nat.zero_mul,hR]
 have X:=Nb r O;have Y:T-gC ((v,w)::r)=T-w-gC r:=by show T-(w+gC r)=_;omega
 rw[e,Y,ha,tJ,<-nk,show gC r+(T-w-gC r)=T-w by omega]at H;have Q:jv 0 r*2 ^ (T-w-gC r)<2 ^ (T-w):=by
  have:2 ^ (T-w)=2 ^ gC r*2 ^ (T-w-gC r):=by rw[<-nk,show gC r+(T-w-gC r)=T-w by omega]
  rw[this];exact Nat.mul_lt_mul_of_pos_right X (v3 _)
 refine⟨?_,⟨by omega,O,?_⟩⟩
 .rw[H,rQ,Nat.mul_add_div (v3 _),vX Q,Nat.add_zero]
 .rw[H,rQ,Nat.mul_add_mod,nj Q]
theorem Holds.same{N T v H w:Nat}{r r':List (Nat×Nat)}(h:Holds N T ((v,w)::r))(Q:Holds N T ((H,w)::r')):v=H/\∃O aZ,Holds O aZ r/\Holds O aZ r':=by
 obtain⟨a,b⟩:=h.JK;obtain⟨c,d⟩:=Q.JK
 grind
def N3:∀(l m:BP) (r r':List (Nat×Nat)) (N T:Nat),l.length=m.length->(∀x∈l,0<=x.ez/\0<=x.kW/\0<=x.fo)->(∀x∈m,0<=x.ez/\0<=x.kW/\0<=x.fo)->
  Holds N T (l.flatMap ry++r)->Holds N T (m.flatMap ry++r')->l=m/\∃g aZ,Holds g aZ r/\Holds g aZ r'
 |[],[],r,r',N,T,_,_,_,a,b=>⟨rfl,N,T,a,b⟩
 |[],_::_,_,_,_,_,a,_,_,_,_=>by simp at a
 |_::_,[],_,_,_,_,a,_,_,_,_=>by simp at a
 |x::l,y::m,r,r',N,T,h,e,f,a,b=>by
  obtain⟨w,_,_,a,b⟩:=Holds.same a b;obtain⟨z,_,_,a,b⟩:=Holds.same a b;obtain⟨u,_,_,a,b⟩:=Holds.same a b;obtain⟨i,j⟩:=N3 l m r r' _ _ (by simpa using h) (λd c=>e d (by simp[c])) (λd c=>f d (by simp[c])) a b;refine⟨?_,j⟩;have t:=e x (by simp);have v:=f y (by simp)
  rw[i];congr 1
  obtain⟨n,k,o⟩:=x;obtain⟨q,p,s⟩:=y;simp only at *;rw[ew.mk.injEq];omega
def Xw{a b:Int}(d:fM a=true)(c:fM b=true)(h:pz a=pz b):a=b:=by
 simp only[fM,kZ,eY]at d c;rcases d with rfl|rfl|rfl|rfl<;>rcases c with rfl|rfl|rfl|rfl<;>simp[pz]at h ⊢
def N4:∀(l m:zo) (r r':List (Nat×Nat)) (N T:Nat),l.length=m.length->(∀x∈l,0<=x.bA/\0<=x.aP/\fM x.Length=true)->(∀x∈m,0<=x.bA/\0<=x.aP/\fM x.Length=true)->
  Holds N T (l.flatMap te++r)->Holds N T (m.flatMap te++r')->l=m
 |[],[],_,_,_,_,_,_,_,_,_=>rfl
 |[],_::_,_,_,_,_,a,_,_,_,_=>by simp at a
 |_::_,[],_,_,_,_,a,_,_,_,_=>by simp at a
 |x::l,y::m,r,r',N,T,g,e,f,a,b=>by
  obtain⟨v,_,_,a,b⟩:=Holds.same a b;obtain⟨w,_,_,a,b⟩:=Holds.same a b;obtain⟨i,_,_,a,b⟩:=Holds.same a b;have k:=N4 l m r r' _ _ (by simpa using g) (λd c=>e d (by simp[c])) (λd c=>f d (by simp[c])) a b;have h:=e x (by simp);have j:=f y (by simp)
  have u:=Xw h.2.2 j.2.2 i;rw[k];congr 1
  obtain⟨o,n,p⟩:=x;obtain⟨s,q,t⟩:=y;simp only at *;rw[fx.mk.injEq];omega
def YD(l:Int):pz l<4:=by unfold pz;split;omega;split;omega;split<;>omega
theorem aaM{a b:a6}(k:eC a=true)(j:eC b=true)(h:jw a=jw b):a=b:=by
 have p:∀{a:a6},eC a=true->∃f,f<65536/\k3 (jw a) (gC (ot a++[(f,16)])) (jv 0 (ot a++[(f,16)]))/\(0<=a.ai/\0<=a.Seq)/\
   (∀e∈a.Links,0<=e.ez/\0<=e.kW/\0<=e.fo)/\(∀e∈a.Claims,0<=e.bA/\0<=e.aP/\fM e.Length=true)/\∀n∈ot a++[(f,16)],n.1<2 ^ n.2:=by
  intro a k;obtain⟨⟨G,_⟩,F,_,f,m,t⟩:=GH k;have s:jw a=G:=by unfold jw;rw[F]
  have j:=k;simp only[eC,dT,b9,eY,gE,px,iM]at j;obtain⟨⟨⟨⟨⟨Q,P⟩,⟨M,O⟩⟩,o⟩,⟨q,_⟩⟩,⟨N,C,_⟩⟩:=j;refine⟨f,m,s▸t,by omega,λe i=>?_,λe i=>?_,?_⟩
  .have:=q e i;omega
  .grind
  .intro n g;simp only[ot,tM,dG,c5,hr,hG,r8]at g;rcases g with(((rfl|rfl|rfl|rfl)|⟨e,i,g⟩)|rfl|⟨e,i,g⟩)|rfl
   .grind
   .grind
   .grind
   .grind
   .have:=q e i;simp only[ry,c5,hr,hG]at g
    grind
   .grind
   .have:=C e i;simp only[te,c5,hr,hG]at g;rcases g with rfl|rfl|rfl
    .grind
    .grind
    .show pz e.Length<4;exact YD _
   .exact m
 obtain⟨f,m,r,R,o,dJ,w⟩:=p k;obtain⟨E,X,l,T,A,bz,u⟩:=p j;rw[<-h]at l;have c:Holds (rX (jw a)) (8*(jw a).length) (ot a++[(f,16)]):=⟨r.le,w,r.num⟩;have d:Holds (rX (jw a)) (8*(jw a).length) (ot b++[(E,16)]):=⟨l.le,u,l.num⟩;unfold ot tM at c d;simp only[jt,l6,lC]at c d;obtain⟨V,_,_,c,d⟩:=c.same d;obtain⟨W,_,_,c,d⟩:=c.same d;obtain⟨v,_,_,c,d⟩:=c.same d;obtain⟨y,_,_,c,d⟩:=c.same d;obtain⟨z,_,_,c,d⟩:=N3 _ _ _ _ _ _ y o A c d;obtain⟨x,_,_,c,d⟩:=c.same d;have B:=N4 _ _ _ _ _ _ x dJ bz c d;obtain⟨L,H,ac,S,K⟩:=a;obtain⟨I,J,D,Y,U⟩:=b;simp only at *;rw[a6.mk.injEq];refine⟨by omega,by omega,?_,z,B⟩;cases ac<;>cases D<;>simp at v<;>rfl
def Lf:∀{l m:bX},(∀b∈l,0<=b/\b<256)->(∀b∈m,0<=b/\b<256)->m6 l=m6 m->l=m
 |[],[],_,_,_=>rfl
 |[],_::_,_,_,h=>by simp[m6]at h
 |_::_,[],_,_,h=>by simp[m6]at h
 |x::l,y::m,c,hm,h=>by
  simp only[m6,dr,iV]at h;have f:=c x (by simp);have d:=hm y (by simp)
  have e:x.toNat=y.toNat:=by
   have:=fq UInt8.toNat h.1;simp only[UInt8.toNat_ofNat']at this;omega
  rw[Lf (λb a=>c b (by simp[a])) (λb a=>hm b (by simp[a])) h.2,show x=y by omega]
def K4{a:a6}(h:eC a=true):∀b∈jw a,0<=b/\b<256:=by
 obtain⟨⟨f,_⟩,e,_,i,g,d⟩:=GH h;have c:jw a=f:=by unfold jw;rw[e]
 rw[c];exact d.z7
def YE{a b:a6}(e:eC a=true)(d:eC b=true)(h:hh a b=false)(f:hh b a=false):a=b:=by
 simp only[hh,kj,BY,iz]at h f;have g:a.Seq=b.Seq:=by omega
 have j:¬0<g5 (m6 (jw a)) (m6 (jw b)):=by rcases h.2 with c|c;exact absurd g c;exact c
 have i:¬0<g5 (m6 (jw b)) (m6 (jw a)):=by rcases f.2 with c|c;exact absurd g.symm c;exact c
 rw[Cq]at i;exact aaM e d (Lf (K4 e) (K4 d) (Hf (by omega)))
def mo(x y:a6):a6:=bif hh y x then y else x
def T7{d e:bM}(a:eK d)(b:eK e){r:Int}{x y:a6}(j:look d r=some x)(c:look e r=some y):hT (some x) y=mo x y:=by
 obtain⟨f,i⟩:=(m2 a).1 j;obtain⟨h,g⟩:=(m2 b).1 c;simp only[hT,mo,m7,a.ok x f,b.ok y h,hq];rw[i,g];simp
def mq(o p:vr):vr:=match o,p with|some x,some y=>some (mo x y)|some x,none=>some x|none,p=>p
def aaN{a b:bM}(d:eK a)(c:eK b)(r:Int):look (jO a b) r=mq (look a r) (look b r):=by
 rw[Xf d c];cases f:look a r with
 |none=>cases e:look b r<;>rfl
 |some x=>
  cases e:look b r with
  |none=>rfl
  |some y=>simp only[T7 d c f e,mq]
end
section
def j9(t:aS)(r n:Int):ew:=match t.Links.find? (λl=>gf l r n)with|some l=>ew.mk n (jo r n l).1 l.fo|none=>ew.mk n 0 0
def ur(t:aS)(r:Int):Bool:=match t.bf.find? (λa=>decide (a.aP=r))with|some a=>a.bK|none=>false
def eZ(t:aS)(r seq:Int)(cl:zo):a6:=a6.mk r seq (ur t r) ((hH t r).map (j9 t r)) cl
variable {t:aS}
def Hg(d:cE t){x:bV}(b:x∈t.bf):ur t x.aP=x.bK:=by
 unfold ur;cases a:t.bf.find? (λc=>decide (c.aP=x.aP))with
 |none=>have:=wq.1 a x b;simp at this
 |some c=>
  have f:=pP a;have e:=r6 a;simp only[Rl d f b (by simpa using e)]
def YF(a:cE t)(r:Int):hW t r=some (ur t r):=by
 unfold hW;simp only[GB t r (by have:=a.jP;omega),yE,ho.2 a,aR,ef,cm];cases b:t.bf.find? (λc=>decide (c.aP=r))with
 |none=>
  have:hx t r=false:=pS.2 λc e=>by simpa using wq.1 b c e
  rw[aaw a this];unfold ur;rw[b]
 |some c=>
  have d:=r6 b;have d:c.aP=r:=by simpa using d
  rw[<-d,Pw a (pP b),Hg a (pP b)]
def s0(t:aS)(r n:Int):(j9 t r n).ez=n:=by unfold j9;split<;>rfl
variable {l:bm}
def Gv(d:cE t){a b:Int}(c:l∈t.Links)(g:gf l a b=true):j9 t a b=ew.mk b (jo a b l).1 l.fo:=by
 unfold j9;cases e:t.Links.find? (λl=>gf l a b)with
 |none=>exact absurd g (wq.1 e l c)
 |some x=>
  have f:=pP e;have h:=r6 e;have j:=d.lt _ c;have i:=d.lt _ f;simp[gf]at g h;rw[NZ d f c (by omega) (by omega)]
def GP(b:cE t)(a:l∈t.Links):j9 t l.A l.B=ew.mk l.B l.iA l.fo:=by
 rw[Gv b a (by simp[gf])];simp[jo]
def GQ(b:cE t)(a:l∈t.Links):j9 t l.B l.A=ew.mk l.A l.iq l.fo:=by
 have:=b.lt _ a;rw[Gv b a (by simp[gf])];have c:(decide (l.A=l.B)&&decide (l.B=l.A))=false:=by simp;omega
 simp only[jo,c,bH]
variable {r:Int}
theorem M7(c:cE t)(f:r∈ids t):(hH t r).length<=23:=by
 have h:r∉hH t r:=λe=>HC c ((j6 c).1 e) rfl;have g:(hH t r).Nodup:=(u7 c r).imp λe=>by omega
 have:=nU (a:=r::hH t r) (b:=ids t) (jX.2 ⟨h,g⟩) λj d=>by
  rcases c5.1 d with rfl|d
  .exact f
  .exact(gz.1 d).1
 have i:=sZ c
 grind
def Q1{α:Type}{p:α->α->Bool}{l:List α}(h:l.Pairwise λa b=>p a b=true):iX p l=true:=uP h
theorem L8(a:cE t)(e:r∈ids t)(seq:Int)(cl:zo):eC (eZ t r seq cl)=(dT seq 1 1000000&&(decide ((cl.length:Int)<=8)&&(cl.all iM&&wM cl))):=by
 have B:=M7 a e;have o:dT r 1 99=true:=by
  obtain⟨g,c,p⟩:=dg.1 e;have:=a.uz g c;simp only[dT,b9,eY];omega
 have k:((hH t r).map (j9 t r)).all (px (eZ t r seq cl))=true:=by
  rw[gE];intro g c;obtain⟨f,n,rfl⟩:=dg.1 c;have d:=(j6 a).1 n;obtain⟨v,i,p⟩:=dg.1 (o1 a d);have A:=a.uz v i;obtain⟨l,b,z⟩:=iJ.1 d;have x:=a.lt l b;have h:=a.Em l b;simp only[oB,pq,kj,qz,b9,eY,iz]at h;have y:=HC a d;rw[Gv a b (by simp[gf];omega)];have w:1<=(jo r f l).1/\(jo r f l).1<=1000:=by
   unfold jo
   grind
  have m:(eZ t r seq cl).ai=r:=rfl;simp only[px,dT,m,b9,eY,gD,iz];omega
 have j:z2 ((hH t r).map (j9 t r))=true:=by
  refine Q1 (lq.2 ((u7 a r).imp λu=>?_));simp only[s0,eY];exact u
 have q:(eZ t r seq cl).Links=(hH t r).map (j9 t r):=rfl;unfold eC;rw[q,k,j];have s:decide ((((hH t r).map (j9 t r)).length:Int)<=23)=true:=by simp;omega
 rw[s];show(dT r 1 99&&dT seq 1 1000000&&true&&(true&&true)&&(decide ((cl.length:Int)<=8)&&(cl.all iM&&wM cl)))=_;rw[o];simp
end
section
def wN(l m:bm):Prop:=l.B<m.B\/(l.B=m.B/\l.A<m.A)
def Xx{l:mJ}(Q:l.length<=1000000)(i:l.Pairwise wN):Ok (yu l) (λm=>m.Pairwise (λa b=>ga a b=true)/\(∀x,x∈m↔x∈l)/\m.length=l.length):=by
 unfold yu;refine aFg (λn m=>m.Pairwise (λa b=>ga a b=true)/\(∀x,x∈m↔x∈n)/\m.length=n.length) ?_ _ ⟨by simp,by simp,rfl⟩ λf r=>Ok.s r;rintro n x aa f a4 B ⟨u,C,V⟩ J;have U:n.length<l.length:=by rw[B];simp
 have G:∀d∈f,ga d x=false->ga x d=true:=λd e c=>by
  rw[B]at i;have:=(mG.1 i).2.2 d ((C d).1 e) x (by simp);simp only[ga,kj,BY,iz,kZ,b9,eY]at *;unfold wN at this;omega
 refine aFv (λj:Int=>(0<=j/\j<=f.length)/\∀d∈f.take j.toNat,ga d x=true) (λj=>((f.length:Int)-j).toNat) ⟨by omega,by simp⟩ (by omega) ?_;rintro a R ⟨⟨L,W⟩,s⟩ K;refine aFj (λy:Bool=>(y=true->∃c:a.toNat<f.length,ga f[a.toNat] x=true)/\(y=false->∀c:a.toNat<f.length,ga f[a.toNat] x=false)) ?_ ?_
 .rintro y ⟨F,v⟩;refine Ok.cs (λc=>?_) λc=>?_
  .obtain⟨h,g⟩:=F c;rw[fv (by omega) (by omega)];refine K _ ⟨by omega,λd e=>?_⟩ (by omega);rw[show(a+1).toNat=a.toNat+1 by omega,HP h]at e;rcases dG.1 e with e|e
   .exact s d e
   .simp at e;subst e;exact g
  .have v:=v c;refine Ok.af (ze ⟨by omega,by omega,by omega⟩) λT h=>?_;refine Ok.af (qp (by simp;omega)) λS g=>?_;refine Ok.af (qp (by simp at g ⊢;omega)) λX A=>?_;refine Ok.af (ze ⟨by omega,by omega,by omega⟩) λY H=>?_;refine Ok.af (qp (by simp at g A ⊢;omega)) λM I=>?_;have t:M=f.take a.toNat++x::f.drop a.toNat:=by
    rw[I.1,A.1,g.1,h.1,H.1];simp
   have D:∀d∈f.drop a.toNat,ga x d=true:=λd e=>by
    have p:a.toNat<f.length:=by
     have:=List.length_pos_of_mem e;rw[l2]at this;omega
    rw[r3 p]at e;have E:=G _ (List.getElem_mem p) (v p);rcases c5.1 e with rfl|e
    .exact E
    .have z:(f.drop a.toNat).Pairwise (λa b=>ga a b=true):=u.sublist (List.drop_sublist _ _);rw[r3 p,fI]at z;exact Co _ _ _ E (z.1 d e)
   refine J _ ⟨?_,λd=>?_,?_⟩
   .rw[t];refine mG.2 ⟨u.sublist (List.take_sublist _ _),fI.2 ⟨D,u.sublist (List.drop_sublist _ _)⟩,λd e O w=>?_⟩;rcases c5.1 w with rfl|w
    .exact s d e
    .exact Co _ _ _ (s d e) (D O w)
   .have r:=o6 a.toNat f;have:d∈f↔d∈f.take a.toNat\/d∈f.drop a.toNat:=by rw[<-dG,r]
    rw[t,dG,c5,dG,gL,<-C d,this];constructor
    .rintro(c|c|c);exact .inl (.inl c);exact .inr c;exact .inl (.inr c)
    .rintro((c|c)|c);exact .inl c;exact .inr (.inr c);exact .inr (.inl c)
   .rw[t];simp;omega
 .intro P q;refine Ok.cs (λc=>?_) λc=>q _ ⟨by simp,λ_ g=>by simp at c;omega⟩;simp at c;refine Ok.af (n2 L c) λZ N=>?_;obtain⟨h,g⟩:=k0.1 N.2;subst g;refine Ok.cs (λk=>q _ ⟨λ_=>⟨h,by simp[ga];simp at k;omega⟩,by simp⟩) λk=>?_;refine Ok.cs (λo=>?_) λo=>q _ ⟨by simp,λ_ _=>by simp[ga];simp at k o;omega⟩;refine q _ ⟨λi=>⟨h,?_⟩,λi _=>?_⟩
  .simp at k o i;simp[ga];omega
  .simp at k o i;simp[ga];omega
def wD(l:bm):Prop:=1<=l.A/\l.A<l.B/\(1<=l.iA/\l.iA<=5)/\(1<=l.iq/\l.iq<=5)/\0<=l.fo/\l.fo<=3
structure Jj(g:aS)(dB:Int):Prop where
 v:cE g
 n:1<=g.bf.length/\(g.bf.length:Int)<=dB
 i:∀r∈g.bf,r.aP<=dB
 all:∀i:Int,1<=i->i<=(g.bf.length:Int)->∃r∈g.bf,r.aP=i
theorem Xy{t:cu}{w:Int}(h:fC t)(O:1<=w/\w<=8):Ok (AJ t w) (λp=>(Jj p.1 w/\∀r∈p.1.bf,r.bK=true)/\fC p.2):=by
 unfold AJ;refine Ok.af (u6 h) λp C=>?_;obtain⟨Z,C⟩:=C;have Z:=Z (by omega) (by omega) (by omega);refine aFt (by simp;omega) ?_;refine aFA (λj (o:uX)=>(o.length:Int)=j-1/\o.Pairwise (λf e=>f.aP<e.aP)/\(∀r∈o,1<=r.aP/\r.aP<j)/\(∀i,1<=i->i<j->∃r∈o,r.aP=i)/\∀r∈o,r.bK=true) 1 (p.1+1) ?_ ?_ _ _ _ rfl (by omega) (by omega) ⟨by simp,by simp,by simp,λi N D=>by omega,by simp⟩
 .rintro i a a4 N D ⟨y,aK,A,aL,aN⟩ G;refine Ok.af (qp (by simp;omega)) λbi x=>G _ ⟨by have:=x.2;simp at this;omega,?_,?_,?_,?_⟩
  .grind
  .grind
  .rw[x.1];intro j aV aY
   by_cases bt:j=i
   .simp_all
   .grind
  .grind
 rintro i aI a7 J ⟨bj,az,X,M,aG⟩;have J:=J (by omega);subst J;refine Ok.af (vz C (by decide) (by decide)) λY T=>?_;have W:1<=Y.1/\Y.1<=5:=by have:=T.1;simp at this;omega
 refine aFt (by simp;omega) ?_;refine aFA (λj (a:mJ×bX×Int)=>((a.1.length:Int)<=8*(j-2)/\(∀b∈a.1,wD b/\b.B<j)/\a.1.Pairwise wN)/\fC (cu.mk a.2.1 a.2.2)) 2 (if 2<=p.1+1 then p.1+1 else 2) ?_ ?_ _ _ _ ?_ (by omega) ?_ ⟨by simp,T.2⟩
 .intro e a a4 ae l y G;have ax:e<p.1+1:=by split at l<;>omega
  obtain⟨bc,aJ,At⟩:=a;obtain⟨⟨H,m,u⟩,E⟩:=y;simp only at H m u;refine Ok.af (u6 E) λbe aE=>?_;refine Ok.af (HB aE.2 (by omega)) λaU aB=>?_;refine aFt (by simp;omega) ?_;refine aFA (λf (a:mJ×bX×Int)=>((a.1.length:Int)<=8*(e-2)+(f-1)/\(∀b∈a.1,wD b/\(b.B<e\/b.B=e/\b.A<f))/\a.1.Pairwise wN)/\fC (cu.mk a.2.1 a.2.2)) 1 e ?_ ?_ _ _ _ rfl (by omega) (by omega) ⟨⟨by simp only;omega,λb c=>⟨(m b c).1,.inl (m b c).2⟩,u⟩,aB⟩
  .intro f a bh V z A aC;obtain⟨aq,ay,aA⟩:=a;obtain⟨⟨K,g,n⟩,v⟩:=A;simp only at K g n;refine aFj (λa:bX×Int×mJ=>((a.2.2.length:Int)<=8*(e-2)+f/\(∀b∈a.2.2,wD b/\(b.B<e\/b.B=e/\b.A<f+1))/\a.2.2.Pairwise wN)/\fC (cu.mk a.1 a.2.1)) (λa q=>aC _ ⟨by have h:=q.1;obtain⟨_,_,_⟩:=a;simp only at h ⊢;exact⟨by omega,h.2⟩,q.2⟩) λaX P=>?_;refine aFj (λa:Bool×bX×Int=>fC (cu.mk a.2.1 a.2.2)) (λa q=>?_) λaW F=>?_
   .obtain⟨bv,aR,aT⟩:=a;refine Ok.cs (λ_=>?_) λ_=>P _ ⟨⟨by simp only;omega,λb c=>⟨(g b c).1,by have:=(g b c).2;omega⟩,n⟩,q⟩;refine Ok.af (u6 q) λaZ S=>?_;refine Ok.af (u6 S.2) λa2 U=>?_;refine Ok.af (jm U.2 (by omega)) λao I=>?_;have R:=S.1 (by omega) (by omega) (by omega);have Q:=U.1 (by omega) (by omega) (by omega);have a5:=I.1.2.1 (by omega);have aD:=I.1.1;refine Ok.af (qp (by simp;omega)) λba s=>P _ ⟨⟨by have:=s.2;rw[fW,hP]at this;simp only;omega,?_,?_⟩,I.2⟩
    .simp only[s.1];intro b c
     rcases dG.1 c with c|c
     .exact⟨(g b c).1,by have:=(g b c).2;omega⟩
     .simp only[gL]at c;subst c
      exact⟨⟨V,z,⟨R.1,Int.le_trans R.2 W.2⟩,⟨Q.1,Int.le_trans Q.2 W.2⟩,aD,by show ao.1<=3;omega⟩,.inr ⟨rfl,by show f<f+1;omega⟩⟩
    .simp only[s.1];refine mG.2 ⟨n,by simp,λb c o O=>?_⟩;have:=(g b c).2;simp at O;subst O;unfold wN;simp only;omega
   .refine Ok.cs (λ_=>?_) λ_=>Ok.af (HB v (by omega)) λaH h=>F _ h;exact Ok.cs (λ_=>F _ v) λ_=>Ok.af (HB v (by omega)) λaH h=>F _ h
  .intro f a V z A;have z:=z (by omega);obtain⟨aq,ay,aA⟩:=a;obtain⟨⟨K,g,n⟩,v⟩:=A;simp only at K g n;exact G _ ⟨⟨by simp only;omega,λb c=>⟨(g b c).1,by have:=(g b c).2;omega⟩,n⟩,v⟩
 .intro e a ae l y;have l:=l (by split<;>omega);have ax:e<=9:=by split at l<;>omega
  obtain⟨a9,bb,bo⟩:=a;obtain⟨⟨H,m,u⟩,E⟩:=y;simp only at H m u;refine Ok.af (Xx (by omega) u) λb c=>?_;obtain⟨x,s,bk⟩:=c;have ar:Jj (aS.mk aI b) w:=by
   have bs:e=p.1+1:=by split at l<;>omega
   have L:∀d∈b,wD d/\d.B<p.1+1:=λd k=>by
    have:=m d ((s d).1 k);exact⟨this.1,by omega⟩
   refine⟨⟨by simp only;omega,by simp only;omega,λr B=>by have:=X r B;omega,az,λd k=>?_,λd k=>?_,λd k=>(L d k).1.2.1,x⟩,by simp only;omega,λr B=>by have:=X r B;omega,λi N D=>M i N (by simp only at D;omega)⟩
   .have:=(L d k).1;unfold wD at this;have ab:pq d.iA=true:=by simp[pq];omega
    have aa:pq d.iq=true:=by simp[pq];omega
    simp only[oB,ab,aa,dk,ow,Bool.false_or,kj,iz];omega
   .have:=L d k;unfold wD at this;obtain⟨an,ak,aj⟩:=M d.A (by omega) (by omega);obtain⟨ag,am,aw⟩:=M d.B (by omega) (by omega);exact⟨vk.2 ⟨an,ak,aj⟩,vk.2 ⟨ag,am,aw⟩⟩
  exact Ok.s ⟨⟨ar,aG⟩,E⟩
 .split<;>omega
 .split<;>omega
end
section
def p7(r:Int)(l:bm):Option ew:=if r=l.A then some (ew.mk l.B l.iA l.fo)else if r=l.B then some (ew.mk l.A l.iq l.fo)else none
theorem YG{t:aS}(c:cE t)(r:Int):t.Links.filterMap (p7 r)=(hH t r).map (j9 t r):=by
 have e:∀a∈t.Links,a.A<a.B:=λa b=>c.lt a b;refine yw (r:=λf h:ew=>f.ez<h.ez) (λf=>Int.lt_irrefl _) (λf h v=>Int.lt_trans) ?_ ?_ λq=>?_
 .rw[List.pairwise_filterMap];refine List.Pairwise.imp_of_mem (λ{a p} b o k q d x j=>?_) c.uu;have i:=e a b;have s:=e p o
  have u:=aaB.1 k;unfold p7 at d j
  grind
 .exact lq.2 ((u7 c r).imp λn=>by simp only[s0];exact n)
 .rw[iB,dg];constructor
  .rintro⟨a,b,d⟩;have i:=e a b;unfold p7 at d;split at d
   .cases d;rename_i g;subst g
    exact⟨a.B,(j6 c).2 (iJ.2 ⟨a,b,.inl ⟨rfl,rfl⟩⟩),GP c b⟩
   .split at d
    .cases d;rename_i g;subst g
     exact⟨a.A,(j6 c).2 (iJ.2 ⟨a,b,.inr ⟨rfl,rfl⟩⟩),GQ c b⟩
    .cases d
  .rintro⟨w,m,rfl⟩;obtain⟨a,b,l⟩:=iJ.1 ((j6 c).1 m);have i:=e a b;refine⟨a,b,?_⟩;unfold p7;rcases l with⟨rfl,rfl⟩|⟨rfl,rfl⟩
   .rw[bx rfl,GP c b]
   .rw[bw (by omega),bx rfl,GQ c b]
end
section
def yF{α a β:Type}(f:α->a){K:List a->Option β}:∀(l:List α) (j:Nat) (s:List a),s.length+l.length<=1000000->bC l j (λ(_:Int) (e:α) (a4:List a->Option β) (o:List a)=>af (dm o ([f e]:List a)) λl=>a4 l) K s=K (s++l.map f)
 |[],_,s,_=>by simp[bC]
 |x::r,j,s,h=>by
  simp only[bC];simp only[fW]at h;rw[g9 (by simp;omega),aR,yF f r (j+1) _ (by simp;omega)];simp
def a0(f:aQ):aS:=aS.mk (f.aM.map λa=>bV.mk a.ai a.bK) f.Links
def rE(f:aQ):Prop:=f.Links.length<=100000/\f.aM.length<=100000
variable {f:aQ}
def F1(h:rE f):sA f=some (a0 f):=by
 unfold sA;rw[yF (λa:br=>bV.mk a.ai a.bK) f.aM 0 [] (by have:=h.2;simp;omega)];rfl
def vB{l:mJ}(h:l.length<=100000):qJ l=some l:=by
 unfold qJ Ap;rw[g9 (by simp;omega)];rfl
def vH(h:rE f):oI f=some (a0 f):=by
 unfold oI;rw[vB h.1,aR,yF (λa:br=>bV.mk a.ai a.bK) f.aM 0 [] (by have:=h.2;simp;omega)];rfl
def nE(r:Int):ri->Nat->Int
 |[],_=>-1
 |x::l,a=>bif decide (x.ai=r)then(a:Int)else nE r l (a+1)
def L9{B:Int->br->(Unit->ir)->Unit->ir}{K:Unit->ir}{r:Int}(a:∀j x a4 s,B j x a4 s=bif decide (x.ai=r)then some j else a4 s)(b:∀s,K s=some (-1)):∀(l:ri) (j:Nat) (s:Unit),bC l j B K s=some (nE r l j)
 |[],_,s=>b s
 |x::l,j,s=>by
  simp only[bC,a,nE,L9 a b l (j+1) s];cases decide (x.ai=r)<;>rfl
def ki(f:aQ)(r:Int):Int:=nE r f.aM 0
def CQ(f:aQ)(r:Int):q0 f r=some (ki f r,decide (0<=ki f r)):=by
 unfold q0 DY;rw[L9 (r:=r) (λb c a4 a=>by simp only[ET,aR]) (λa=>rfl)];rfl
def Nc(r:Int):∀(l p:ri),(nE r l p.length = -1/\∀x∈l,x.ai≠r)\/∃a x b,l=a++x::b/\nE r l p.length=((p.length+a.length:Nat):Int)/\x.ai=r
 |[],_=>.inl ⟨rfl,by simp⟩
 |x::l,p=>by
  by_cases c:x.ai=r
  .exact .inr ⟨[],x,l,rfl,by simp[nE,c],c⟩
  .have:=Nc r l (p++[x]);simp only[dF,fW,hP]at this;rcases this with⟨e,d⟩|⟨a,h,b,e,d,g⟩
   .exact .inl ⟨by simp only[nE,c,jQ,bH];exact e,λi f=>by
     rcases c5.1 f with rfl|f
     .exact c
     .exact d i f⟩
   .exact .inr ⟨x::a,h,b,by rw[e];rfl,by simp only[nE,c,jQ,bH];rw[d];simp;omega,g⟩
def yq(f:aQ)(r:Int):(ki f r = -1/\∀x∈f.aM,x.ai≠r)\/∃a x b,f.aM=a++x::b/\ki f r=(a.length:Int)/\x.ai=r:=by
 have:=Nc r f.aM [];simpa [ki]using this
def nY(l:zo):Bool:=decide ((l.length:Int)<=8)&&(l.all iM&&wM l)
def Ek(n:br):Bool:=decide (0<=n.Seq)&&(decide (n.Seq<=1000000)&&(nY n.Claims&&decide (nG n.Database=0)))
def Ej(f:aQ)(m:cF):Bool:=decide (0<=ki f m.dx)&&(decide (0<=ki f m.bS)&&(!decide (m.dx=m.bS)&&decide (nG m.Database=0)))
def tj(f:aQ):Bool:=decide (h3 (a0 f)=0)&&(!decide ((400:Int)<(f.bg.length:Int))&&(f.aM.all Ek&&f.bg.all (Ej f)))
variable {α:Type}
def Gw{β:Type}{B:Int->α->(Unit->Option β)->Unit->Option β}{K:Unit->Option β}(p:α->Bool)(a:Option β)(l:List α)(b:∀j,∀x∈l,∀a4,B j x a4 ()=bif p x then a4 ()else a):∀(j:Nat),bC l j B K ()=bif l.all p then K ()else a:=by
 induction l with
 |nil=>intro j;rfl
 |cons x r d=>
  intro j;simp only[bC];rw[b _ x (by simp),d (λj e c=>b j e (by simp[c])),qA];cases p x<;>rfl
theorem o2{n:br}(a:n∈f.aM):n.ai∈ids (a0 f):=by
 unfold ids a0
 grind
variable {r:Int}{t:aS}
def Wy(a:cE t)(b:r∈ids t):dT r 1 99=true:=by
 obtain⟨d,c,rfl⟩:=dg.1 b;have:=a.uz d c;simp[dT];omega
theorem oV(h:rE f):ml f=some (bif tj f then 0 else 1):=by
 unfold ml tj;simp only[jn,vH h,qb,aR];by_cases a:h3 (a0 f)=0
 .have e:=ho.1 a;by_cases d:(400:Int)<(f.bg.length:Int)
  .simp[a,d]
  .simp only[a,d,ef,jQ,dk,js,bH,hq];rw[Gw Ek (some 1) f.aM]
   .rw[Gw (Ej f) (some 1) f.bg]
    .grind
    .intro j b c a4;simp only[CQ,yO,aR,Ej]
     grind
   .intro j b c a4;have g:=Wy e (o2 c);have i:eC (a6.mk b.ai 1 false [] b.Claims)=nY b.Claims:=by
     simp only[eC,g,nY,List.all_nil,z2,iX,hP,hq,Bool.and_true];rfl
    simp only[vl,i,yO,aR,Ek]
    grind
 .simp[a]
structure dj(f:aQ):Prop where
 t:cE (a0 f)
 m:f.bg.length<=400
 n:∀n∈f.aM,(0<=n.Seq/\n.Seq<=1000000)/\nY n.Claims=true/\eK n.Database
 g:∀m∈f.bg,0<=ki f m.dx/\0<=ki f m.bS/\m.dx≠m.bS/\eK m.Database
def n5:tj f=true↔dj f:=by
 unfold tj;simp only[b9,eY,gD,iz,gE,Ek,Ej];constructor
 .rintro⟨i,j,g,h⟩;exact⟨ho.1 i,by omega,λe b=>by have:=g e b;exact⟨⟨this.1,this.2.1⟩,this.2.2.1,n4.1 this.2.2.2⟩,λd c=>by have:=h d c;exact⟨this.1,this.2.1,this.2.2.1,n4.1 this.2.2.2⟩⟩
 .intro a;exact⟨ho.2 a.t,by have:=a.m;omega,λe b=>by have:=a.n e b;exact⟨this.1.1,this.1.2,this.2.1,n4.2 this.2.2⟩,λd c=>by have:=a.g d c;exact⟨this.1,this.2.1,this.2.2.1,n4.2 this.2.2.2⟩⟩
def dj.len(h:dj f):f.aM.length<=24:=by have:=h.t.jP;simpa [a0]using this
def dj.ic{f:aQ}(h:dj f):f.aM.Pairwise λa b=>a.ai<b.ai:=by
 have:=h.t.ic;simp only[a0,lq]at this;exact this
theorem dj.idx(h:dj f){a b:ri}{n:br}(O:f.aM=a++n::b):ki f n.ai=(a.length:Int):=by
 have S:=h.ic;rw[O]at S;rcases yq f n.ai with⟨_,H⟩|⟨X,x,aa,ae,H,Z⟩
 .grind
 .rw[H];have Q:X.length=a.length:=by
   have Y:=tG.1 h.ic;have ab:∀(h:a.length<f.aM.length),f.aM[a.length]=n:=λh=>by simp[O]
   grind
  rw[Q]
def Tq(e:cE t)(j:r∈ids t)(seq:Int){cl:zo}(m:cl.length<=100000):BR t r seq cl=some (bif eC (eZ t r seq cl)then(eZ t r seq cl,0)else(oR,2)):=by
 have p:=e.jP;have q:=e.nl
 have k:=YF e r;refine aFo ?_;unfold BR;simp only[qb,vA t r (show t.bf.length<=1000000 by omega),k,aR,ho.2 e,mB.1 j,ef,dk,bH,hq];rw[g9 (by simp;omega),aR];refine aFg (λf (g:BP)=>g=f.filterMap (p7 r)/\g.length<=f.length) ?_ _ ⟨rfl,by simp⟩ ?_
 .rintro f a s g a4 l ⟨d,o⟩ h;have n:f.length<t.Links.length:=by rw[l];simp
  simp only[jn];refine Ok.cs (λb=>?_) λb=>?_
  .have b:r=a.A:=by simpa using b
   rw[g9 (by simp;omega),aR];refine h _ ⟨?_,by simp;omega⟩;rw[r5,d];simp[p7,b]
  .have b:r≠a.A:=by simpa using b
   refine Ok.cs (λc=>?_) λc=>?_
   .have c:r=a.B:=by simpa using c
    rw[g9 (by simp;omega),aR];refine h _ ⟨?_,by simp;omega⟩;have i:p7 r a=some (ew.mk a.A a.iq a.fo):=by unfold p7;rw[bw b,bx c]
    rw[r5,d,List.filterMap_cons,i];rfl
   .have c:r≠a.B:=by simpa using c
    refine h _ ⟨?_,by simp;omega⟩;have i:p7 r a=none:=by unfold p7;rw[bw b,bw c]
    rw[r5,d,List.filterMap_cons,i];simp
 .rintro g ⟨d,_⟩;rw[YG e]at d;subst d;rw[vl,aR];show Ok (bif !eC (eZ t r seq cl)then _ else _) _;cases eC (eZ t r seq cl)
  .exact Ok.s rfl
  .exact Ok.s rfl
def oC(f:aQ)(n:br)(seq:Int):a6×Bool:=bif dT seq 1 1000000 then(eZ (a0 f) n.ai seq n.Claims,true)else(oR,false)
theorem Ma(h:dj f){n:br}(a:n∈f.aM)(seq:Int):eC (eZ (a0 f) n.ai seq n.Claims)=dT seq 1 1000000:=by
 rw[L8 h.t (o2 a)];have:=(h.n n a).2.1;unfold nY at this
 grind
def dj.sm(h:dj f):rE f:=by have O:=h.len;have H:=h.t.nl;exact⟨by have:f.Links.length<=60:=H;omega,by omega⟩
def FV{l:zo}(h:nY l=true):l.length<=100000:=by
 simp only[nY,b9,eY]at h;omega
def zb(h:dj f){n:br}(a:n∈f.aM):q2 f n=some (bif decide (n.Seq=0)then(oR,false)else oC f n n.Seq):=by
 unfold q2;cases b:decide (n.Seq=0)
 .simp only[bH];rw[vH h.sm,aR,Tq h.t (o2 a) n.Seq (FV (h.n n a).2.1),Ma h a,aR];unfold oC;cases dT n.Seq 1 1000000<;>rfl
 .rfl
theorem GR(e:α->α->Bool)(d:∀a b,e a b=true↔a=b):∀(l m:List α),(decide ((l.length:Int)=m.length)&&(l.zip m).all (λp=>e p.1 p.2))=true↔l=m:=by
 intro l;induction l with
 |nil=>intro m;cases m<;>simp;omega
 |cons x l c=>
  intro m;cases m with
  |nil=>simp;omega
  |cons y m=>
   have:=c m;simp only[b9,eY]at this;simp only[fW,List.zip_cons_cons,qA,b9,eY,iV,d,<-this];constructor
   .grind
   .grind
def Wi(a b:ew):sT a b=true↔a=b:=by cases a;cases b;simp[sT]
def Wj(a b:fx):sS a b=true↔a=b:=by cases a;cases b;simp[sS]
theorem yG(a b:a6):oh a b=true↔a=b:=by
 obtain⟨i,l,n,f,g⟩:=a;obtain⟨k,j,m,d,e⟩:=b;have h:=GR sT Wi f d;have c:=GR sS Wj g e;simp only[oh,DF,DG,b9]at h c ⊢
 grind
def Xz(a b:bM):tL a b=true↔a=b:=by
 obtain⟨a⟩:=a;obtain⟨b⟩:=b;have:=GR oh yG a b;simp only[tL,bM.mk.injEq];exact this
end
section
def rY{α:Type}(P:List α->α->Bool):List α->List α->Bool
 |_,[]=>true
 |p,x::r=>P p x&&rY P (p++[x]) r
def XA{α β:Type}{B:Int->α->(Unit->Option β)->Unit->Option β}{K:Unit->Option β}{L:List α}(P:List α->α->Bool)(a:Option β)(e:∀(p:List α) x r a4,L=p++x::r->B (p.length:Int) x a4 ()=bif P p x then a4 ()else a):bC L 0 B K ()=bif rY P [] L then K ()else a:=by
 have g:∀(b p:List α),L=p++b->bC b p.length B K ()=bif rY P p b then K ()else a:=by
  intro b;induction b with
  |nil=>intro p _;rfl
  |cons x r d=>
   intro p c;simp only[bC,rY];rw[e p x r _ c];have:=d (p++[x]) (by simp[c]);rw[dF]at this;have f:bC r (p.length+1) B K ()=bif rY P (p++[x]) r then K ()else a:=this
   rw[f];cases P p x<;>rfl
 exact g L [] rfl
noncomputable def DI(f:aQ)(p:ri)(n:br):Bool:=(bif decide (n.Seq=0)then(oR,false)else oC f n n.Seq).2&&((hI n.Database n.ai).2&&(oh (bif decide (n.Seq=0)then(oR,false)else oC f n n.Seq).1 (hI n.Database n.ai).1&&p.all (λa=>!je (a0 f) a.ai n.ai||tL a.Database n.Database)))
noncomputable def DJ(f:aQ):Bool:=tj f&&(!decide ((0:Int)<(f.bg.length:Int))&&rY (DI f) [] f.aM)
theorem Xg{f:aQ}(h:rE f):AN f=some (DJ f):=by
 unfold AN DJ;simp only[jn,oV h,vH h,aR];cases l:tj f
 .rfl
 .have c:=n5.1 l;simp only[cm,ef,dk,bH,hq];have q:(a0 f).bf.length<=1000000:=by have:=c.t.jP;omega
  cases decide ((0:Int)<(f.bg.length:Int))
  .simp only[bH,js,hq];rw[XA (DI f) (some false)]
   .grind
   .intro b a y a4 d;have g:a∈f.aM:=by rw[d];simp
    have w:=c.len;have s:b.length<f.aM.length:=by rw[d];simp
    have p:=(c.n a g).2.2.sm;simp only[zb c g,y7 p,aR,CP];have fB:hB f.aM 0 (b.length:Int)=some b:=by
     unfold hB;rw[bx ⟨by omega,by omega,by omega⟩,d];simp
    unfold DI;rw[fB,aR]
    have v:(bC b 0 (λ(u:Int) (j:br) (e:Unit->dw) (m:Unit)=>af (w6 (a0 f) j.ai a.ai) λ(n:Bool)=>(bif n then af (xF j.Database a.Database) λ(o:Bool)=>(bif !o then some false else e ())else(bif false then some false else e ()))) (λ(m:Unit)=>a4 ()) ()) =
      bif b.all (λi=>!je (a0 f) i.ai a.ai||tL i.Database a.Database)then a4 ()else some false:=by
     refine Gw _ (some false) b (λx k t r=>?_) 0;rw[V8 _ _ _ q,aR,aay,aR];cases je (a0 f) k.ai a.ai<;>cases tL k.Database a.Database<;>rfl
    grind
  .rfl
end
section
def y8{d:bM}(b:pa d):uB d=some d:=by
 refine aFo ?_;unfold uB;refine aFg (λe (a:td)=>a=e) ?_ _ rfl (λa i=>Ok.s (by rw[i]));rintro e c k a a4 g rfl h;have f:c∈d.bq:=by rw[g];simp
 have j:a.length<d.bq.length:=by rw[g];simp
 have:=b.1;rw[N0 (b.2 c f).1,aR,C8 (b.2 c f).2,aR,g9 (by simp;omega),aR];exact h _ rfl
variable {f:aQ}
def Gx(h:dj f):nN f=some f:=by
 refine aFo ?_;unfold nN;have i:=h.sm;rw[vB i.1,aR];refine aFg (λb (a:ri)=>a=b) ?_ _ rfl ?_
 .rintro b d n a a4 c rfl g;have e:d∈f.aM:=by rw[c];simp
  have k:a.length<f.aM.length:=by rw[c];simp
  have l:=i.2;have j:=h.n d e;rw[C8 (FV j.2.1),aR,y8 j.2.2.sm,aR,g9 (by simp;omega),aR];exact g _ rfl
 .rintro a rfl;refine aFg (λb (a:sD)=>a=b) ?_ _ rfl (λa m=>Ok.s (by rw[m]));rintro b d n a a4 c rfl g;have e:d∈f.bg:=by rw[c];simp
  have k:a.length<f.bg.length:=by rw[c];simp
  have l:=h.m;rw[y8 (h.g d e).2.2.2.sm,aR,g9 (by simp;omega),aR];exact g _ rfl
def eP(f:aQ)(a:ri)(n:br)(b:ri):aQ:=aQ.mk f.Links (a++n::b) f.bg
variable {a b:ri}{n':br}
def oT{n:br}(d:f.aM=a++n::b)(c:n'.ai=n.ai)(e:n'.bK=n.bK):a0 (eP f a n' b)=a0 f:=by
 unfold a0 eP;rw[d];simp[c,e]
def M8(r:Int):∀(l m:ri) (j:Nat),l.map (·.ai)=m.map (·.ai)->nE r l j=nE r m j
 |[],[],_,_=>rfl
 |[],_::_,_,h=>by simp at h
 |_::_,[],_,h=>by simp at h
 |x::l,y::m,j,h=>by
  simp only[dr,iV]at h;simp only[nE,h.1,M8 r l m (j+1) h.2]
def M9{n:br}(d:f.aM=a++n::b)(c:n'.ai=n.ai)(r:Int):ki (eP f a n' b) r=ki f r:=by
 unfold ki eP;exact M8 r _ _ 0 (by rw[d];simp[c])
def dj.eP{f:aQ}(h:dj f){a b:ri}{n n':br}(O:f.aM=a++n::b)(Q:n'.ai=n.ai)(S:n'.bK=n.bK)(X:(0<=n'.Seq/\n'.Seq<=1000000)/\nY n'.Claims=true/\eK n'.Database):dj (eP f a n' b):=by
 refine⟨by rw[oT O Q S];exact h.t,h.m,λx H=>?_,λm Y=>?_⟩
 .have H:x∈a++n'::b:=H;rcases dG.1 H with H|H
  .exact h.n x (by rw[O];simp[H])
  .rcases c5.1 H with rfl|H
   .exact X
   .exact h.n x (by rw[O];simp[H])
 .have:=h.g m Y;rw[M9 O Q,M9 O Q];exact this
def F2(f:aQ)(a b:ri)(n n':br):Go.Proofs.YtemmkpdjmgafoaaGreatDoor.eP (Go.Proofs.YtemmkpdjmgafoaaGreatDoor.eP f a n b) a n' b=Go.Proofs.YtemmkpdjmgafoaaGreatDoor.eP f a n' b:=rfl
variable {α:Type}
def s2(p:List α)(x y:α)(r:List α):gB (p++x::r) (p.length:Int) y=some (p++y::r):=by
 unfold gB;rw[bx ⟨by omega,by simp;omega⟩];simp
def jf(f:aQ)(n:br):br:=br.mk n.ai n.Seq n.bK n.Claims (jx n.Database (eZ (a0 f) n.ai n.Seq n.Claims)).1
def zc(h:dj f){n:br}(a:n∈f.aM){seq:Int}(b:1<=seq/\seq<=1000000):eC (eZ (a0 f) n.ai seq n.Claims)=true:=by
 rw[Ma h a];simp[dT];omega
def C0(h:dj f){n:br}(g:f.aM=a++n::b)(i:1<=n.Seq):qL (ea.mk f) (a.length:Int)=some (ea.mk (eP f a (jf f n) b)):=by
 have d:n∈f.aM:=by rw[g];simp
 have c:=h.n n d;have e:=zc h d (seq:=n.Seq) ⟨i,c.1.2⟩;unfold qL;have j:decide (n.Seq=0)=false:=by simp;omega
 have k:dT n.Seq 1 1000000=true:=by simp[dT];omega
 simp only[g,iy,aR];simp only[zb h d,j,bH,oC,k,cm,aR];rw[Q0 c.2.2.sm (vi.sm e),bx ⟨n4.2 c.2.2,e⟩,aR,s2,aR];rfl
def dj.Ep(h:dj f){n H:br}(X:f.aM=a++H::b)(Q:n.ai=H.ai)(Y:n.bK=H.bK)(S:1<=n.Seq/\n.Seq<=1000000)(O:nY n.Claims=true)(hd:eK n.Database):dj (Go.Proofs.YtemmkpdjmgafoaaGreatDoor.eP f a (jf f n) b):=by
 refine h.eP X Q Y ⟨⟨by have:=S.1;show 0<=n.Seq;omega,S.2⟩,O,?_⟩;refine hd.put ?_;have Z:H∈f.aM:=by rw[X];simp
 rw[Q,L8 h.t (o2 Z)];have aa:dT n.Seq 1 1000000=true:=by simp[dT];omega
 unfold nY at O;rw[aa,O];rfl
def Gb(h:dj f){n:br}(c:f.aM=a++n::b):qN f n.ai=some (ea.mk f,(a.length:Int),0):=by
 unfold qN;have d:decide (0<=(a.length:Int))=true:=by simp
 simp only[oV h.sm,n5.2 h,CQ,h.idx c,d,aR,cm,ef,dk,bH,Gx h]
def Cr(h:dj f){r:Int}(a:ki f r = -1):qN f r=none/\uE f r=some (0,4):=by
 unfold qN uE;simp only[oV h.sm,n5.2 h,CQ,a,aR,cm];exact⟨rfl,rfl⟩
variable {k:Int}
def KR(h:dj f)(c:0<=k/\k<f.bg.length):sw f k=some (ea.mk f,0):=by
 unfold sw;have a:decide (k<0)=false:=by simp;omega
 have b:decide ((f.bg.length:Int)<=k)=false:=by simp;omega
 simp only[oV h.sm,n5.2 h,a,b,aR,cm,ef,dk,ow,bH,Gx h]
def B7(h:dj f)(b:¬(0<=k/\k<f.bg.length)):sw f k=none/\w4 f k=some 4:=by
 have a:(decide (k<0)||decide ((f.bg.length:Int)<=k))=true:=by simp;omega
 unfold sw w4;simp only[oV h.sm,n5.2 h,a,aR,cm];exact⟨rfl,rfl⟩
def rU(f:aQ)(n:br):sD:=(hH (a0 f) n.ai).map λa=>cF.mk n.ai a n.Database
def Nd(h:dj f){n:br}(c:f.aM=a++n::b)(M:sD)(j:M.length<=5000):wZ (ea.mk (aQ.mk f.Links f.aM M)) (a.length:Int)=some (ea.mk (aQ.mk f.Links f.aM (M++rU f n))):=by
 have d:n∈f.aM:=by rw[c];simp
 have g:b6 f.aM (a.length:Int)=some n:=by rw[c];exact iy a n b
 unfold wZ;have e:oI (aQ.mk f.Links f.aM M)=some (a0 f):=vH (f:=aQ.mk f.Links f.aM M) h.sm;simp only[g,aR,e,V4,ho.2 h.t,fE,y8 (h.n n d).2.2.sm];have k:=M7 h.t (o2 d);rw[yF (λi:Int=>cF.mk n.ai i n.Database) _ 0 M (by omega)];rfl
def hJ(f:aQ)(p q:sD):aQ:=aQ.mk f.Links f.aM (p++q)
theorem Na{l:List α}(b:0<=k/\k<l.length):∃p x q,l=p++x::q/\k=(p.length:Int):=by
 have a:k.toNat<l.length:=by omega
 refine⟨l.take k.toNat,l[k.toNat],l.drop (k.toNat+1),?_,by simp;omega⟩
 simp_all
theorem Nf(p:List α)(x:α)(q:List α)(a:(p++x::q).length<=100000):qG (p++x::q) (p.length:Int) (a2 ((p.length:Int)+1))=some (p++q):=by
 have b:p.length+q.length+1<=100000:=by simpa [mD]using a
 rw[fv (by omega) (by omega)];unfold qG;rw[bx ⟨by omega,by omega,by simp;omega⟩]
 simp_all
end
section
theorem Mb{α:Type}{B:Int->α->(Unit->ir)->Unit->ir}{K:Unit->ir}(p:α->Bool)(d:K ()=some (-1)):∀(l:List α),(∀j,∀x∈l,∀a4,B j x a4 ()=bif p x then some j else a4 ())->∀j:Nat,(bC l j B K ()=some (-1)/\∀x∈l,p x=false)\/∃a x b,l=a++x::b/\bC l j B K ()=some ((j+a.length:Nat):Int)/\p x=true/\∀y∈a,p y=false
 |[],_,j=>Or.inl ⟨d,by simp⟩
 |x::r,c,j=>by
  have h:bC (x::r) j B K ()=bif p x then some (j:Int)else bC r (j+1) B K ():=c _ x (by simp) _
  rw[h];cases e:p x with
  |true=>exact Or.inr ⟨[],x,r,rfl,by simp,e,by simp⟩
  |false=>
   rcases Mb p d r (λj y g=>c j y (by simp[g])) (j+1)with⟨i,f⟩|⟨a,y,b,i,f,k,m⟩
   .grind
   .grind
def YH{l:sD}{w:cF->dw}(p:cF->Bool)(h:∀x∈l,w x=some (p x))(W:l.length<=100000):wQ l w=some (l.filter λx=>!p x):=by
 refine aFo ?_;unfold wQ DR;rcases Mb p (B:=λ(I:Int) (y:cF) (N:Unit->ir) (u:Unit)=>match u with|()=>af (w y) λ(H:Bool)=>bif H then some (I:Int)else N ()) (K:=λ(u:Unit)=>match u with|()=>some (-1:Int)) rfl l (λV x r a4=>by simp only[h x r,aR]) 0 with⟨h1,t⟩|⟨m,x,b,h1,t,J,M⟩
 .rw[h1,aR,show decide ((-1:Int) = -1)=true from rfl,cm];exact Ok.s (by rw[zU.2 λx r=>by simp[t x r]])
 .rw[t,aR];have Y:l.length=m.length+(b.length+1):=by rw[h1];simp
  have y:decide (((0+m.length:Nat):Int) = -1)=false:=ff (by omega);rw[y,bH,fv (by omega) (by omega)];refine aFv (λs:sD×Int×Int=>∃a g j,l=a++j/\s.1=(a.filter λx=>!p x)++g++j/\s.2.1=((a.filter λx=>!p x).length:Int)/\s.2.2=(a.length:Int)/\1<=g.length/\(a.filter λx=>!p x).length+g.length=a.length) (λs=>l.length-s.2.2.toNat) ?_ (by simp only;omega) ?_
  .have T:(m.filter λx=>!p x)=m:=zU.2 λc v=>by simp[M c v]
   refine⟨m++[x],[x],b,by rw[h1];simp,?_,?_,?_,by simp,?_⟩
   all_goals simp[T,J,h1]
  rintro⟨aa,Z,V⟩ a4 ⟨a,g,j,o,D,A,C,L,F⟩ E;simp only at D A C;subst D A C;have q:l.length=a.length+j.length:=by rw[o];simp
  have jI:((a.filter λx=>!p x)++g++j).length=l.length:=by simp only[dF,q,<-F]
  refine Ok.cs (λe=>?_) λe=>?_
  .have e:a.length<l.length:=by have e:=fF e;simp only[jI]at e;omega
   obtain⟨c,i,rfl⟩:∃c k,j=c::k:=by
    cases j with
    |nil=>simp at q;omega
    |cons c k=>exact⟨c,k,rfl⟩
   obtain⟨d,f,rfl⟩:∃d k,g=d::k:=by
    cases g with
    |nil=>simp at L
    |cons c k=>exact⟨c,k,rfl⟩
   have v:c∈l:=by rw[o];simp
   have U:b6 ((a.filter λx=>!p x)++d::f++c::i) (a.length:Int)=some c:=by
    have:=iy ((a.filter λx=>!p x)++d::f) c i
    rwa [show(((a.filter λx=>!p x)++d::f).length:Int)=(a.length:Int)by rw[dF];omega]at this
   have O:b6 ((a.filter λx=>!p x)++d::f++c::i) ((a.filter λx=>!p x).length:Int)=some d:=by
    have:=iy (a.filter λx=>!p x) d (f++c::i);simpa using this
   have Q:gB ((a.filter λx=>!p x)++d::f++c::i) ((a.filter λx=>!p x).length:Int) c=some ((a.filter λx=>!p x)++c::(f++c::i)):=by
    have:=s2 (a.filter λx=>!p x) d c (f++c::i);simpa using this
   have X:(a.filter λx=>!p x).length<=a.length:=oz _ _;simp only[fW]at F q;simp only[jn,U,aR,h c v];rw[fv (n:=(a.length:Int)+1) (by omega) (by omega)];cases z:p c with
   |true=>
    simp only[dk,bH];refine E _ ⟨a++[c],d::f++[c],i,by rw[o];simp,?_,?_,?_,by simp,?_⟩ (by simp only;omega)
    all_goals simp[z]
    all_goals omega
   |false=>
    simp only[js,cm,O,Q,aR];rw[fv (n:=((a.filter λx=>!p x).length:Int)+1) (by omega) (by omega)];refine E _ ⟨a++[c],f++[c],i,by rw[o];simp,?_,?_,?_,by simp,?_⟩ (by simp only;omega)
    all_goals simp[z]
    all_goals omega
  .try dsimp only at e ⊢
   have e:¬a.length<l.length:=by have e:=of_decide_eq_false e;simp only[jI]at e;omega
   have G:j=[]:=by cases j with|nil=>rfl|cons c k=>simp at q;omega
   subst G;have S:a=l:=by rw[o];simp
   subst S;have R:((a.filter λx=>!p x)++g++[]).length=a.length:=jI;rw[jT (fU (by rw[R];omega))]
   have P:hB (((a.filter λx=>!p x)++g++[]).take (((a.filter λx=>!p x).length:Int)).toNat++List.replicate (((a.filter λx=>!p x)++g++[]).length-(((a.filter λx=>!p x).length:Int)).toNat) (cF.mk (0:Int) (0:Int) (bM.mk []))) (0:Int) ((a.filter λx=>!p x).length:Int)=some (a.filter λx=>!p x):=by
    unfold hB;rw[bx ⟨by omega,by omega,by simp;omega⟩];simp
   rw[P,aR];exact Ok.s rfl
def kM(t:aS)(x:cF):Bool:=(kD t x.dx x.bS).2
def mb(n:br):br:=br.mk n.ai (n.Seq+1) n.bK n.Claims n.Database
def oD(t a:aS)(n:br):Bool:=decide (1<=n.Seq)&&(decide (n.Seq<1000000)&&!oh (eZ t n.ai n.Seq n.Claims) (eZ a n.ai n.Seq n.Claims))
def e6(t a:aS)(n:br):br:=bif oD t a n then br.mk n.ai (n.Seq+1) n.bK n.Claims (jx n.Database (eZ a n.ai (n.Seq+1) n.Claims)).1 else n
def dA(f:aQ)(L:mJ):aQ:=aQ.mk L f.aM f.bg
def wE(f:aQ)(L:mJ):aQ:=aQ.mk L (f.aM.map (e6 (a0 f) (a0 (dA f L)))) (f.bg.filter (kM (a0 (dA f L))))
variable {t:aS}
def aaO{h:aQ}{n:br}(a:oD t (a0 h) n=true):e6 t (a0 h) n=jf h (mb n):=by
 unfold e6;rw[a];rfl
def Q2{g:aQ}{a b:ri}{n:br}(d:dj g)(c:g.aM=a++n::b):dj (eP g a (e6 t (a0 g) n) b)/\a0 (eP g a (e6 t (a0 g) n) b)=a0 g:=by
 have i:n∈g.aM:=by rw[c];simp
 have h:=d.n n i;cases e:oD t (a0 g) n with
 |false=>
  have f:e6 t (a0 g) n=n:=by unfold e6;rw[e];rfl
  have j:eP g a n b=g:=by unfold eP;rw[<-c]
  rw[f,j];exact⟨d,rfl⟩
 |true=>
  have f:e6 t (a0 g) n=jf g (mb n):=by unfold e6;rw[e];rfl
  simp only[oD,b9,eY]at e;rw[f];exact⟨d.Ep c (n:=mb n) rfl rfl ⟨by show 1<=n.Seq+1;omega,by show n.Seq+1<=1000000;omega⟩ h.2.1 h.2.2,oT c rfl rfl⟩
def kN(f:aQ)(L:mJ)(M:sD)(p l:ri):aQ:=aQ.mk L (p.map (e6 (a0 f) (a0 (dA f L)))++l) M
def ME{f:aQ}{L:mJ}{M:sD}:∀(q p l:ri),(dj (kN f L M p (q++l))/\a0 (kN f L M p (q++l))=a0 (dA f L))->dj (kN f L M (p++q) l)/\a0 (kN f L M (p++q) l)=a0 (dA f L)
 |[],p,l,h=>by simpa using h
 |n::q,p,l,⟨h1,c⟩=>by
  have:=Q2 (t:=a0 f) h1 (a:=p.map (e6 (a0 f) (a0 (dA f L)))) (n:=n) (b:=q++l) rfl;rw[c]at this;have d:kN f L M (p++[n]) (q++l)=eP (kN f L M p (n::q++l)) (p.map (e6 (a0 f) (a0 (dA f L)))) (e6 (a0 f) (a0 (dA f L)) n) (q++l):=by
   unfold kN eP;simp
  rw[<-d]at this;have:=ME q (p++[n]) l this;simpa using this
variable {L:mJ}{f:aQ}
def N5{M:sD}(a:dj (aQ.mk L f.aM M))(l p:ri)(h:f.aM=p++l):dj (kN f L M p l)/\a0 (kN f L M p l)=a0 (dA f L):=by
 have:=ME (f:=f) (L:=L) (M:=M) p [] l ?_
 .simpa using this
 .rw[<-h];exact⟨a,rfl⟩
theorem dj.HR(h:dj f)(q:cF->Bool):dj (aQ.mk f.Links f.aM (f.bg.filter q)):=by
 refine⟨h.t,?_,h.n,λm O=>h.g m ?_⟩
 .have:=h.m;have H:=oz q f.bg;show(f.bg.filter q).length<=400;omega
 .grind
def XB(a:dj (dA f L)):dj (wE f L)/\a0 (wE f L)=a0 (dA f L):=by
 have:=N5 (f:=f) (L:=L) (M:=f.bg.filter (kM (a0 (dA f L)))) (a.HR _) [] f.aM (by simp);unfold kN at this;rw[l5]at this;exact this
structure Jk(f:aQ):Prop where
 s:rE f
 m:f.bg.length<=100000
 n:∀n∈f.aM,n.Claims.length<=100000/\pa n.Database
 g:∀x∈f.bg,pa x.Database
def dj.wc(h:dj f):Jk f:=⟨h.sm,by have:=h.m;omega,λn H=>⟨FV (h.n n H).2.1,(h.n n H).2.2.sm⟩,λx O=>(h.g x O).2.2.2.sm⟩
def MF(h:Jk f):nN f=some f:=by
 refine aFo ?_;unfold nN;have i:=h.s;rw[vB i.1,aR];refine aFg (λb (a:ri)=>a=b) ?_ _ rfl ?_
 .rintro b d n a a4 c rfl g;have e:d∈f.aM:=by rw[c];simp
  have k:a.length<f.aM.length:=by rw[c];simp
  have l:=i.2;have j:=h.n d e;rw[C8 j.1,aR,y8 j.2,aR,g9 (by simp;omega),aR];exact g _ rfl
 .rintro a rfl;refine aFg (λb (a:sD)=>a=b) ?_ _ rfl (λa m=>Ok.s (by rw[m]));rintro b d n a a4 c rfl g;have e:d∈f.bg:=by rw[c];simp
  have k:a.length<f.bg.length:=by rw[c];simp
  have l:=h.m;rw[y8 (h.g d e),aR,g9 (by simp;omega),aR];exact g _ rfl
theorem Mc(h:dj f){n:br}(a:n∈f.aM):(bif decide (n.Seq=0)then(oR,false)else oC f n n.Seq)=bif decide (1<=n.Seq)then(eZ (a0 f) n.ai n.Seq n.Claims,true)else(oR,false):=by
 obtain⟨g,e⟩:=(h.n n a).1;by_cases b:n.Seq=0
 .grind
 .have c:(1<=n.Seq):=by omega
  have d:dT n.Seq 1 1000000=true:=by simp[dT];omega
  simp[b,c,oC,d]
theorem XC(e:dj f)(i:dj (dA f L)):qT f L=some (wE f L,0):=by
 unfold qT;have F:L.length<=100000:=i.sm.1;have P:=e.m;rw[MF e.wc,aR,vB F,aR];simp only[jn];rw[show aQ.mk L f.aM f.bg=dA f L from rfl,oV e.sm,oV i.sm,n5.2 e,n5.2 i];simp only[aR,cm,ef,dk,bH];rw[vH i.sm,aR]
 have I:wQ f.bg (λ(C:cF)=>AH C (a0 (dA f L)))=some (f.bg.filter (kM (a0 (dA f L)))):=by
  rw[YH (λk=>!kM (a0 (dA f L)) k) (λk M=>?_) (by omega)]
  .simp
  .unfold AH;rw[MX _ k.dx k.bS (by have:(a0 (dA f L)).Links.length<=60:=i.t.nl;omega),ho.2 i.t];rfl
 rw[I,aR];have H:dj (aQ.mk L f.aM (f.bg.filter (kM (a0 (dA f L))))):=i.HR (kM (a0 (dA f L)));refine aFo ?_;refine aFg (λc (s:mJ×ri×sD)=>∃j,f.aM=c++j/\s=(L,c.map (e6 (a0 f) (a0 (dA f L)))++j,f.bg.filter (kM (a0 (dA f L))))) ?_ _ ⟨f.aM,rfl,rfl⟩ ?_
 .rintro c n d s a4 m ⟨j,g,rfl⟩ N;have g:j=n::d:=List.append_cancel_left (g.symm.trans m);subst g;have p:n∈f.aM:=by rw[m];simp
  obtain⟨r,w⟩:=N5 H (n::d) c m;have el:(c.map (e6 (a0 f) (a0 (dA f L)))).length=c.length:=by simp
  have J:b6 (c.map (e6 (a0 f) (a0 (dA f L)))++n::d) (c.length:Int)=some n:=by rw[<-el];exact iy _ n d
  have K:b6 f.aM (c.length:Int)=some n:=by rw[m];exact iy c n d
  have u:(kN f L (f.bg.filter (kM (a0 (dA f L)))) c (n::d)).aM=c.map (e6 (a0 f) (a0 (dA f L)))++n::d:=rfl;have z:n∈(kN f L (f.bg.filter (kM (a0 (dA f L)))) c (n::d)).aM:=by rw[u];simp
  have o:∀n',e6 (a0 f) (a0 (dA f L)) n=n'->Ok (a4 (L,c.map (e6 (a0 f) (a0 (dA f L)))++n'::d,f.bg.filter (kM (a0 (dA f L))))) (λk=>k=(wE f L,0)):=by simp_all
  show Ok (af (b6 (c.map (e6 (a0 f) (a0 (dA f L)))++n::d) (c.length:Int)) _) _;rw[J,aR,K,aR,zb e p,aR,show aQ.mk L (c.map (e6 (a0 f) (a0 (dA f L)))++n::d) (f.bg.filter (kM (a0 (dA f L))))=kN f L (f.bg.filter (kM (a0 (dA f L)))) c (n::d)from rfl,zb r z,aR,Mc e p,Mc r z,w];obtain⟨O,Q⟩:=(e.n n p).1;by_cases q:1<=n.Seq
  .simp only[q,ef,cm,jn,CP,aR];cases v:oh (eZ (a0 f) n.ai n.Seq n.Claims) (eZ (a0 (dA f L)) n.ai n.Seq n.Claims)with
   |true=>
    simp only[dk,bH];exact o n (by unfold e6 oD;rw[v];simp)
   |false=>
    simp only[js,cm];by_cases l:n.Seq<1000000
    .have D:oD (a0 f) (a0 (dA f L)) n=true:=by unfold oD;rw[v];simp[q,l]
     simp only[l,ef,cm];rw[fv (n:=n.Seq+1) (by omega) (by omega)];have x:=e.n n p;have G:dj (eP (kN f L (f.bg.filter (kM (a0 (dA f L)))) c (n::d)) (c.map (e6 (a0 f) (a0 (dA f L)))) (mb n) d):=r.eP u rfl rfl ⟨⟨by show 0<=n.Seq+1;omega,by show n.Seq+1<=1000000;omega⟩,x.2.1,x.2.2⟩;have B:=C0 G (a:=c.map (e6 (a0 f) (a0 (dA f L)))) (b:=d) (n:=mb n) rfl (by show 1<=n.Seq+1;omega);have y:=s2 (c.map (e6 (a0 f) (a0 (dA f L)))) n (mb n) d;rw[el]at y B;have A:a0 (eP (kN f L (f.bg.filter (kM (a0 (dA f L)))) c (n::d)) (c.map (e6 (a0 f) (a0 (dA f L)))) (mb n) d)=a0 (dA f L):=(oT (n':=mb n) u rfl rfl).trans w;have E:e6 (a0 f) (a0 (dA f L)) n=jf (eP (kN f L (f.bg.filter (kM (a0 (dA f L)))) c (n::d)) (c.map (e6 (a0 f) (a0 (dA f L)))) (mb n) d) (mb n):=by
      have:=aaO (t:=a0 f) (n:=n) (h:=eP (kN f L (f.bg.filter (kM (a0 (dA f L)))) c (n::d)) (c.map (e6 (a0 f) (a0 (dA f L)))) (mb n) d) (by rw[A];exact D)
      rwa [A]at this
     show Ok (af (gB (c.map (e6 (a0 f) (a0 (dA f L)))++n::d) (c.length:Int) (mb n)) _) _;rw[y,aR,show aQ.mk L (c.map (e6 (a0 f) (a0 (dA f L)))++mb n::d) (f.bg.filter (kM (a0 (dA f L))))=eP (kN f L (f.bg.filter (kM (a0 (dA f L)))) c (n::d)) (c.map (e6 (a0 f) (a0 (dA f L)))) (mb n) d from rfl,B,aR];exact o _ E
    .simp only[l,jQ,bH];exact o n (by unfold e6 oD;simp[l])
  .simp only[q,jQ,bH,jn];exact o n (by unfold e6 oD;simp[q])
 .rintro s ⟨j,g,rfl⟩;have g:j=[]:=by simpa using g
  subst g;refine Ok.s ?_;unfold wE;simp
end
section
def dj.drop{f:aQ}(h:dj f){p q:sD}{x:cF}(O:f.bg=p++x::q):dj (hJ f p q):=by
 refine⟨h.t,?_,h.n,λm H=>?_⟩
 .have:=h.m;rw[O]at this;show(p++q).length<=400;simp at this ⊢;omega
 .have H:m∈p++q:=H;exact h.g m (by rw[O];rcases dG.1 H with H|H<;>simp[H])
end
section
noncomputable def qi(f:aQ)(n:br)(x:cF):br:=match look (jO n.Database x.Database) n.ai with
 |some a=>@ite _ ((n.Seq≠0/\a=eZ (a0 f) n.ai n.Seq n.Claims)\/1000000<=a.Seq) (Classical.propDecidable _) (br.mk n.ai n.Seq n.bK n.Claims (jO n.Database x.Database)) (jf f (br.mk n.ai (a.Seq+1) n.bK n.Claims (jO n.Database x.Database)))
 |none=>br.mk n.ai n.Seq n.bK n.Claims (jO n.Database x.Database)
theorem K5{f:aQ}(h:dj f){p q:sD}{x:cF}(i:f.bg=p++x::q):
  (eO (a0 f) x.dx x.bS=false->oH (ea.mk f) (p.length:Int)=some (ea.mk (hJ f p q)))/\
  (eO (a0 f) x.dx x.bS=true->∃a n b,f.aM=a++n::b/\n.ai=x.bS/\oH (ea.mk f) (p.length:Int)=some (ea.mk (eP (hJ f p q) a (qi f n x) b))/\dj (eP (hJ f p q) a (qi f n x) b)):=by
 have A:x∈f.bg:=by rw[i];simp
 have ag:=h.m;have l:=h.drop i;obtain⟨X,W,Y,v⟩:=h.g x A;have ae:f.Links.length<=60:=h.t.nl;have ab:=h.len;have t:a0 (hJ f p q)=a0 f:=rfl;have Q:b6 f.bg (p.length:Int)=some x:=by rw[i];exact iy p x q
 have R:qG f.bg (p.length:Int) (a2 ((p.length:Int)+1))=some (p++q):=by
  rw[i];exact Nf p x q (by rw[<-i];omega)
 have g:(kD (a0 f) x.dx x.bS).2=eO (a0 f) x.dx x.bS:=L3 _ _ _;have K:uH (a0 f) x.dx x.bS=some (kD (a0 f) x.dx x.bS):=by
  rw[MX (a0 f) x.dx x.bS (show f.Links.length<=1000000 by omega),ho.2 h.t];rfl
 unfold oH;simp only[Q,R,aR];rw[show aQ.mk f.Links f.aM (p++q)=hJ f p q from rfl,vH l.sm];simp only[aR,t,K,g];constructor
 .intro o;rw[o];rfl
 .intro o;rw[o];simp only[dk,bH,CQ,aR];have S:ki (hJ f p q) x.bS=ki f x.bS:=rfl;rw[S];rcases yq f x.bS with⟨s,_⟩|⟨a,n,b,j,s,B⟩
  .omega
  .have O:n∈f.aM:=by rw[j];simp
   have d:=h.n n O;have J:b6 f.aM (a.length:Int)=some n:=by rw[j];exact iy a n b
   have G:∀m,gB f.aM (a.length:Int) m=some (a++m::b):=λm=>by rw[j];exact s2 a n m b
   have k:(hJ f p q).aM=a++n::b:=j;have e:=d.2.2.merge v;refine⟨a,n,b,j,B,?_⟩;simp only[s,J,aR,YC d.2.2.sm,n4.2 d.2.2,n4.2 v,and_self,fE,G,iy];unfold qi;generalize Z:jO n.Database x.Database=d1 at e ⊢;have w:dj (eP (hJ f p q) a (br.mk n.ai n.Seq n.bK n.Claims d1) b):=l.eP k rfl rfl ⟨d.1,d.2.1,e⟩;have I:a0 (eP (hJ f p q) a (br.mk n.ai n.Seq n.bK n.Claims d1) b)=a0 f:=oT k rfl rfl;rw[show aQ.mk f.Links (a++br.mk n.ai n.Seq n.bK n.Claims d1::b) (p++q)=eP (hJ f p q) a (br.mk n.ai n.Seq n.bK n.Claims d1) b from rfl];have M:br.mk n.ai n.Seq n.bK n.Claims d1∈(eP (hJ f p q) a (br.mk n.ai n.Seq n.bK n.Claims d1) b).aM:=by
    show _∈a++br.mk n.ai n.Seq n.bK n.Claims d1::b;simp
   have z:oC (eP (hJ f p q) a (br.mk n.ai n.Seq n.bK n.Claims d1) b) (br.mk n.ai n.Seq n.bK n.Claims d1) n.Seq=(bif dT n.Seq 1 1000000 then(eZ (a0 f) n.ai n.Seq n.Claims,true)else(oR,false)):=by
    unfold oC;rw[I]
   have aj:(some (ea.mk (eP (hJ f p q) a (br.mk n.ai n.Seq n.bK n.Claims d1) b)):Option ea)=some (ea.mk (eP (hJ f p q) a (br.mk n.ai n.Seq n.bK n.Claims d1) b))/\dj (eP (hJ f p q) a (br.mk n.ai n.Seq n.bK n.Claims d1) b):=⟨rfl,w⟩;simp only[y7 e.sm,aR,zb w M,z,jn,CP];unfold look;rcases p9 d1 n.ai with⟨c,P,_,y⟩|⟨_,y⟩
   .rw[y];have H:=e.ok c P;have U:1<=c.Seq/\c.Seq<=1000000:=by
     simp only[eC,dT,b9,eY]at H;omega
    simp only[cm];rw[fv (n:=c.Seq+1) (by omega) (by omega)]
    have aa:c.Seq<1000000->(af (gB (a++br.mk n.ai n.Seq n.bK n.Claims d1::b) (a.length:Int) (br.mk n.ai (c.Seq+1) n.bK n.Claims d1)) λ(F:ri)=>af (qL (ea.mk (aQ.mk f.Links F (p++q))) (a.length:Int)) λ(D:ea)=>some D)=some (ea.mk (eP (hJ f p q) a (jf f (br.mk n.ai (c.Seq+1) n.bK n.Claims d1)) b))/\dj (eP (hJ f p q) a (jf f (br.mk n.ai (c.Seq+1) n.bK n.Claims d1)) b):=λV=>by
     have L:dj (eP (hJ f p q) a (br.mk n.ai (c.Seq+1) n.bK n.Claims d1) b):=l.eP k rfl rfl ⟨⟨by show 0<=c.Seq+1;omega,by show c.Seq+1<=1000000;omega⟩,d.2.1,e⟩;have g:=C0 L (a:=a) (b:=b) (n:=br.mk n.ai (c.Seq+1) n.bK n.Claims d1) rfl (by show 1<=c.Seq+1;omega);have N:a0 (eP (hJ f p q) a (br.mk n.ai (c.Seq+1) n.bK n.Claims d1) b)=a0 f:=oT k rfl rfl;have:=l.Ep k (n:=br.mk n.ai (c.Seq+1) n.bK n.Claims d1) rfl rfl (by show 1<=c.Seq+1/\c.Seq+1<=1000000;omega) d.2.1 e;unfold jf at this g ⊢;rw[N]at g;rw[t]at this;refine⟨?_,this⟩;rw[s2,aR,show aQ.mk f.Links (a++br.mk n.ai (c.Seq+1) n.bK n.Claims d1::b) (p++q)=eP (hJ f p q) a (br.mk n.ai (c.Seq+1) n.bK n.Claims d1) b from rfl,g,aR,F2]
    by_cases u:n.Seq=0
    .grind
    .have E:dT n.Seq 1 1000000=true:=by have:=d.1;simp[dT];omega
     simp only[u,E,jQ,bH,cm,dk];by_cases r:c=eZ (a0 f) n.ai n.Seq n.Claims
     .rw[bx (.inl ⟨u,r⟩),(yG _ _).2 r]
      grind
     .have T:oh c (eZ (a0 f) n.ai n.Seq n.Claims)=false:=by
       cases C:oh c (eZ (a0 f) n.ai n.Seq n.Claims)
       .rfl
       .exact absurd ((yG _ _).1 C) r
      grind
   .grind
end
section
def gq(f:aQ):aQ:=match f.bg with
 |[]=>f
 |_::_=>match oH (ea.mk f) 0 with
  |some m=>m.bp
  |none=>f
variable {f:aQ}{q:sD}{x:cF}
def tq(h:dj f)(d:f.bg=x::q):oH (ea.mk f) 0=some (ea.mk (gq f))/\dj (gq f)/\(gq f).bg=q/\
  (eO (a0 f) x.dx x.bS=false->gq f=hJ f [] q)/\(eO (a0 f) x.dx x.bS=true->∃a n b,f.aM=a++n::b/\n.ai=x.bS/\gq f=eP (hJ f [] q) a (qi f n x) b):=by
 have i:∀e,oH (ea.mk f) 0=some (ea.mk e)->gq f=e:=λe k=>by
  unfold gq;rw[d];simp only[k]
 obtain⟨l,j⟩:=K5 h (p:=[]) (q:=q) (x:=x) d;cases g:eO (a0 f) x.dx x.bS with
 |false=>
  have d1:=l g;rw[i _ d1];exact⟨d1,h.drop (p:=[]) d,rfl,λ_=>rfl,λc=>(by cases c)⟩
 |true=>
  obtain⟨a,n,b,d1,d2,d3,d4⟩:=j g;rw[i _ d3];exact⟨d3,d4,rfl,λc=>(by cases c),λ_=>⟨a,n,b,d1,d2,rfl⟩⟩
def wP:Nat->aQ->aQ
 |0,f=>f
 |n+1,f=>wP n (gq f)
def hF(f:aQ):aQ:=wP f.bg.length f
def Wz(h:dj f)(a:f.bg=x::q):hF f=hF (gq f):=by
 unfold hF;rw[a,(tq h a).2.2.1];rfl
def NU:∀(n:Nat) (f:aQ),dj f->f.bg.length=n->dj (wP n f)/\(wP n f).bg=[]
 |0,f,h,a=>⟨h,mN a⟩
 |n+1,f,h,a=>by
  cases b:f.bg with
  |nil=>rw[b]at a;simp at a
  |cons x q=>
   obtain⟨_,c,d,_⟩:=tq h b;refine NU n (gq f) c ?_;rw[d];rw[b]at a;simpa using a
def Cs(h:dj f):dj (hF f)/\(hF f).bg=[]:=NU _ f h rfl
theorem MG(h:dj f):wX (ea.mk f)=some (ea.mk (hF f)):=by
 unfold wX;have n:=h.m;refine DE (G:=λj=>j=some (ea.mk (hF f))) (λs:mJ×ri×sD=>dj (aQ.mk s.1 s.2.1 s.2.2)/\hF (aQ.mk s.1 s.2.1 s.2.2)=hF f) (λs=>s.2.2.length) ⟨h,rfl⟩ (by simp only;omega) ?_;rintro⟨k,m,e⟩ a4 ⟨a,b⟩ c;simp only at a b c ⊢;cases e with
 |nil=>simp only[hP];rw[<-b];rfl
 |cons x q=>
  have g:decide ((0:Int)<(((x::q).length:Nat):Int))=true:=by simp
  obtain⟨i,d,l,_⟩:=tq a (x:=x) (q:=q) rfl;rw[g,cm,i,aR];refine c _ ⟨d,?_⟩ ?_
  .rw[<-Wz a rfl];exact b
  .grind
theorem Ht(key:bm->Int):∀(l:bX) (L:mJ),l.Nodup->(l.map λx=>(L.filter λk=>decide (key k=x)).length).sum<=L.length
 |[],L,_=>by simp
 |x::xs,L,h=>by
  rw[jX]at h;have b:=Ht key xs (L.filter λk=>!decide (key k=x)) h.2
  have c:(xs.map λa=>(L.filter λk=>decide (key k=a)).length)=xs.map λa=>((L.filter λk=>!decide (key k=x)).filter λk=>decide (key k=a)).length:=by
   refine List.map_congr_left λa e=>?_;rw[List.filter_filter]
   grind
  have f:(L.filter λk=>decide (key k=x)).length+(L.filter λk=>!decide (key k=x)).length=L.length:=by
   clear b c;induction L with
   |nil=>rfl
   |cons k L b=>by_cases d:key k=x<;>simp[d]<;>omega
  rw[dr,tI,c];omega
variable {t:aS}
theorem YI(d:cE t)(r:Int):(hH t r).length<=(t.Links.filter λk=>decide (k.A=r)).length+(t.Links.filter λk=>decide (k.B=r)).length:=by
 have g:(hH t r).Nodup:=(u7 d r).imp λe=>by omega
 have:=nU (a:=hH t r) (b:=((t.Links.filter λk=>decide (k.A=r)).map (·.B))++(t.Links.filter λk=>decide (k.B=r)).map (·.A)) g λx f=>by
  have c:=(j6 d).1 f;rw[iJ]at c;obtain⟨i,h,e|e⟩:=c
  .grind
  .grind
 simpa using this
def PU{α:Type}(f g h:α->Nat):∀l:List α,(∀x∈l,f x<=g x+h x)->(l.map f).sum<=(l.map g).sum+(l.map h).sum
 |[],_=>by simp
 |x::l,a=>by
  have:=PU f g h l λc b=>a c (by simp[b]);have:=a x (by simp);simp only[dr,tI];omega
def YJ(c:cE t){l:bX}(b:l.Nodup):(l.map λr=>(hH t r).length).sum<=120:=by
 have g:=PU (λr=>(hH t r).length) (λr=>(t.Links.filter λa=>decide (a.A=r)).length) (λr=>(t.Links.filter λa=>decide (a.B=r)).length) l λr _=>YI c r;have d:=Ht (·.A) l t.Links b;have e:=Ht (·.B) l t.Links b;have f:=c.nl;omega
def no(f:aQ)(p:ri):sD:=p.flatMap (rU f)
variable {p:ri}
theorem Lu(h:dj f){q:ri}(d:f.aM=p++q):(no f p).length<=120:=by
 have b:(p.map (·.ai)).Nodup:=by
  have:=h.ic
  grind
 have:=YJ h.t b;rw[nv]at this
 have c:(no f p).length=(p.map λa=>(rU f a).length).sum:=by
  unfold no
  simp_all
 rw[c];refine gP (Nat.le_of_eq ?_) this;congr 1;refine List.map_congr_left λa _=>?_;simp[rU]
theorem MH{r:Int}(h:r∈ids (a0 f)):0<=ki f r:=by
 rcases yq f r with⟨_,a⟩|⟨b,d,c,_,a,_⟩
 .exfalso;unfold ids a0 at h
  grind
 .omega
def Lv(h:dj f){n:br}(b:n∈f.aM){m:cF}(d:m∈rU f n):0<=ki f m.dx/\0<=ki f m.bS/\m.dx≠m.bS/\eK m.Database:=by
 obtain⟨x,c,rfl⟩:=dg.1 d;have a:=(j6 h.t).1 c;exact⟨MH (o2 b),MH (o1 h.t a),HC h.t a,(h.n n b).2.2⟩
def K6(h:dj f){q:ri}(b:f.aM=p++q):dj (aQ.mk f.Links f.aM (no f p)):=by
 have e:=Lu h b;refine⟨h.t,by show(no f p).length<=400;omega,h.n,λd a=>?_⟩;have a:d∈no f p:=a;obtain⟨g,c,a⟩:=r8.1 a;exact Lv h (by rw[b];simp[c]) a
def Xh(h:dj f)(e:f.bg=[]):Ay (ea.mk f)=some (ea.mk (aQ.mk f.Links f.aM (no f f.aM))):=by
 unfold Ay;refine lX (G:=λi=>i=some (ea.mk (aQ.mk f.Links f.aM (no f f.aM)))) (λp (a:mJ×ri×sD)=>a=(f.Links,f.aM,no f p)) ?_ _ (by rw[e];rfl) (λa c=>by rw[c]);rintro p g q a a4 b rfl d;have j:=Lu h (p:=p) (q:=g::q) b;simp only;rw[Nd h b (no f p) (by omega),aR];exact d _ (by simp[no])
end
section
theorem filter_lt{α:Type}{p q:α->Bool}:∀{l:List α},(∀x∈l,p x=true->q x=true)->∀{a:α},a∈l->p a=false->q a=true->(l.filter p).length<(l.filter q).length
 |[],_,a,d,_,_=>by cases d
 |b::l,h,a,d,h1,j=>by
  have k:∀{l:List α},(∀x∈l,p x=true->q x=true)->(l.filter p).length<=(l.filter q).length:=λ{l}=>by
   induction l with
   |nil=>intro _;simp
   |cons c l g=>
    intro i;have:=g λx e=>i x (by simp[e]);cases m:p c
    .grind
    .grind
  have f:∀x∈l,p x=true->q x=true:=λx e=>h x (by simp[e]);have bt:=k f;rcases c5.1 d with n|d
  .grind
  .have g:=filter_lt f d h1 j
   grind
theorem aaP{T:aS}{Q:Int->Prop}{a b:Int}(h:ds T [] a b)(d:Q a)(c:¬Q b):∃x y,ds T [] a x/\Q x/\eO T x y=true/\¬Q y:=by
 induction h with
 |refl _=>exact absurd d c
 |@step x y g i _ e=>
  by_cases f:Q x
  .grind
  .exact e f
theorem ada{T:aS}(h:cE T)(P:Nat->Int->Prop)(e:∀k i,P k i->P (k+1) i)(m:∀k i j,P k i->eO T i j=true->P (k+1) j){i0:Int}(hi:i0∈ids T)(d:P 0 i0):∀j,ds T [] i0 j->P (ids T).length j:=by
 classical
 have w:∀k,P k i0:=λk=>by
  induction k with
  |zero=>exact d
  |succ k a=>exact e k _ a
 have z:∀k,(∀j,ds T [] i0 j->P k j)\/k+1<=((ids T).filter λi=>decide (P k i)).length:=λk=>by
  induction k with
  |zero=>
   right;exact List.length_pos_iff.2 (List.ne_nil_of_mem (gz.2 ⟨hi,by simpa using d⟩))
  |succ k a=>
   rcases a with a|a
   .grind
   .by_cases t:∀j,ds T [] i0 j->P k j
    .grind
    .right;obtain⟨j,r⟩:=Classical.not_forall.1 t;obtain⟨o,s⟩:=Classical.not_imp.1 r;obtain⟨x,f,y,u,c,v⟩:=aaP (Q:=P k) o (w k) s;have n:f∈ids T:=o1 h c
     have:=filter_lt (l:=ids T) (p:=λi=>decide (P k i)) (q:=λi=>decide (P (k+1) i)) (λg _ b=>by
      have b:P k g:=by simpa using b
      simpa using e k g b) n (by simpa using v) (by simpa using m k x f u c)
     omega
 grind
end
section
variable {f:aQ}{q:sD}{x:cF}
def Xm(h:dj f)(a:f.bg=x::q):dj (gq f)/\(gq f).bg=q:=
 ⟨(tq h a).2.1,(tq h a).2.2.1⟩
def Q3(h:dj f)(c:f.bg=x::q):(eO (a0 f) x.dx x.bS=false->gq f=hJ f [] q)/\(eO (a0 f) x.dx x.bS=true->∃a n b,f.aM=a++n::b/\n.ai=x.bS/\gq f=eP (hJ f [] q) a (qi f n x) b):=(tq h c).2.2.2
def YK(a:dj f):qR f=some (hF (aQ.mk (hF f).Links (hF f).aM (no (hF f) (hF f).aM)),0):=by
 unfold qR;rw[oV a.sm,n5.2 a];obtain⟨b,c⟩:=Cs a;have d:=K6 b (p:=(hF f).aM) (q:=[]) (by simp);simp only[aR,cm,ef,dk,bH,Gx a,MG a,Xh b c,MG d]
end
section
def fk(o p:vr):Prop:=match o,p with|none,_=>True|some _,none=>False|some x,some y=>hh x y=false
def u9(o:vr):fk o o:=by cases o with|none=>trivial|some x=>exact x5 x
variable {o p q:vr}
def u0(b:fk o p)(a:fk p q):fk o q:=by
 cases o with
 |none=>trivial
 |some x=>
  cases p with
  |none=>cases b
  |some y=>
   cases q with
   |none=>cases a
   |some z=>exact KQ b a
def El(o:vr):Prop:=∀a,o=some a->eC a=true
def MI(c:El o)(d:El p)(b:fk o p)(a:fk p o):o=p:=by
 cases o with
 |none=>
  cases p with
  |none=>rfl
  |some y=>cases a
 |some x=>
  cases p with
  |none=>cases b
  |some y=>rw[YE (c x rfl) (d y rfl) b a]
def O7(o p:vr):fk o (mq o p):=by
 cases o with
 |none=>trivial
 |some x=>
  cases p with
  |none=>exact x5 x
  |some y=>
   show hh x (mo x y)=false;unfold mo;cases a:hh y x
   .exact x5 x
   .exact yp a
def HW(o p:vr):fk p (mq o p):=by
 cases p with
 |none=>trivial
 |some y=>
  cases o with
  |none=>exact x5 y
  |some x=>
   show hh y (mo x y)=false;unfold mo;cases a:hh y x
   .exact a
   .exact x5 y
def C1(o p:vr):mq o p=o\/mq o p=p:=by
 cases o with
 |none=>exact .inr rfl
 |some x=>
  cases p with
  |none=>exact .inl rfl
  |some y=>
   show some (mo x y)=some x\/some (mo x y)=some y;unfold mo;cases hh y x
   .exact .inl rfl
   .exact .inr rfl
def Q4(c:fk o q)(b:fk p q):fk (mq o p) q:=by
 rcases C1 o p with a|a<;>rw[a]<;>assumption
variable {a b:a6}
def YL(h:b.Seq<a.Seq):hh a b=true:=by simp[hh,h]
def Q5(h:hh a b=false):a.Seq<=b.Seq:=by
 simp only[hh,kj,iz]at h;omega
def tN(f:aQ)(i:Int):Option br:=f.aM.find? λa=>decide (a.ai=i)
noncomputable def dX(f:aQ)(i s:Int):vr:=match tN f i with|some n=>look n.Database s|none=>none
variable {f:aQ}{i:Int}
theorem sQ(h:dj f){n:br}:tN f i=some n↔n∈f.aM/\n.ai=i:=by
 constructor
 .intro d;exact⟨pP d,by simpa using r6 d⟩
 .rintro⟨k,l⟩;have j:=h.ic
  have:∀c:ri,c.Pairwise (λa b=>a.ai<b.ai)->n∈c->c.find? (λn=>decide (n.ai=i))=some n:=λc=>by
   induction c with
   |nil=>intro _ h;cases h
   |cons b c m=>
    intro g e;rw[fI]at g;rcases c5.1 e with o|e
    .grind
    .grind
  exact this _ j k
def rz(h:dj f){n:br}(a:n∈f.aM)(s:Int):dX f n.ai s=look n.Database s:=by
 unfold dX;rw[(sQ h).2 ⟨a,rfl⟩]
def Dd(h:dj f)(i s:Int):El (dX f i s):=by
 intro a b;unfold dX at b;cases c:tN f i with
 |none=>rw[c]at b;cases b
 |some n=>
  rw[c]at b;obtain⟨e,_⟩:=(sQ h).1 c;have d:=(h.n n e).2.2;exact d.ok a ((m2 d).1 b).1
theorem MJ(h:dj f){n m:br}(a:n∈f.aM)(c:m∈f.aM)(b:n.ai=m.ai):n=m:=by
 have e:=(sQ h (i:=m.ai)).2 ⟨a,b⟩;have d:=(sQ h (i:=m.ai)).2 ⟨c,rfl⟩
 grind
theorem GS(hi:i∈ids (a0 f)):∃n∈f.aM,n.ai=i:=by
 simp only[ids,a0,nv,dg]at hi
 grind
noncomputable def jV(f:aQ)(n:br):a6:=eZ (a0 f) n.ai n.Seq n.Claims
def yn(B:Int)(f:aQ)(a:a6):Prop:=a.Seq<=B\/∃b∈f.aM,a=eZ (a0 f) b.ai a.Seq b.Claims/\a.Seq<=b.Seq
structure fe(B:Int)(f:aQ):Prop where
 bd:0<=B/\B<=900000
 v:dj f
 own:∀n∈f.aM,1<=n.Seq/\n.Seq<=B+1/\look n.Database n.ai=some (jV f n)
 old:∀n∈f.aM,∀s a,look n.Database s=some a->yn B f a
 ng:∀m∈f.bg,∀s a,look m.Database s=some a->yn B f a
variable {B:Int}
def fe.Tr(h:fe B f){n:br}(H:n∈f.aM):dX f n.ai n.ai=some (jV f n):=by
 rw[rz h.v H];exact(h.own n H).2.2
structure qm(B:Int)(f g:aQ)(x:cF):Prop where
 rd:fe B g
 top:a0 g=a0 f
 len:g.aM.length=f.aM.length
 DQ:∀i s,i≠x.bS->dX g i s=dX f i s
 off:eO (a0 f) x.dx x.bS=false->∀i s,dX g i s=dX f i s
 on:eO (a0 f) x.dx x.bS=true->∀s,s≠x.bS->dX g x.bS s=mq (dX f x.bS s) (look x.Database s)
 self:eO (a0 f) x.dx x.bS=true->fk (look x.Database x.bS) (dX f x.bS x.bS)->dX g x.bS x.bS=dX f x.bS x.bS
 bump:eO (a0 f) x.dx x.bS=true->fk (dX f x.bS x.bS) (dX g x.bS x.bS)/\fk (look x.Database x.bS) (dX g x.bS x.bS)
theorem KB(h:fe B f){x:cF}{q:sD}(w:f.bg=x::q):qm B f (gq f) x/\(gq f).bg=q:=by
 obtain⟨r,aa⟩:=Xm h.v w;have a2:=h.bd;obtain⟨d1,d2⟩:=Q3 h.v w;have L:x∈f.bg:=by rw[w];simp
 obtain⟨_,_,_,z⟩:=h.v.g x L;refine⟨?_,aa⟩;cases F:eO (a0 f) x.dx x.bS
 .have E:=d1 F;have aW:a0 (hJ f [] q)=a0 f:=rfl;have jj:∀i s,dX (hJ f [] q) i s=dX f i s:=λi s=>rfl;rw[E]at r ⊢;refine⟨⟨h.bd,r,h.own,h.old,λe j=>h.ng e (by rw[w];exact wz _ j)⟩,rfl,rfl,λi s _=>rfl,λ_ i s=>rfl,λm=>?_,λm=>?_,λm=>?_⟩<;>rw[F]at m<;>cases m
 .obtain⟨a,c,b,y,u,E⟩:=d2 F;have t:c∈f.aM:=by rw[y];simp
  obtain⟨aZ,az,H⟩:=h.own c t;have ao:=(h.v.n c t).2.2;have ay:eK (jO c.Database x.Database):=ao.merge z;have v:∀s,look (jO c.Database x.Database) s=mq (look c.Database s) (look x.Database s):=λs=>aaN ao z s;have aK:look (jO c.Database x.Database) c.ai=some (jV f c)\/∃d,look x.Database c.ai=some d/\look (jO c.Database x.Database) c.ai=some d/\hh d (jV f c)=true:=by
   rw[v,H];cases k:look x.Database c.ai with
   |none=>exact .inl rfl
   |some d=>
    show some (mo (jV f c) d)=_\/_;unfold mo;cases W:hh d (jV f c)
    .exact .inl rfl
    .exact .inr ⟨d,rfl,by show some (mo (jV f c) d)=some d;unfold mo;rw[W];rfl,W⟩
  have gen:∀(g:br),qi f c x=g->g.ai=c.ai->g.bK=c.bK->g.Claims=c.Claims->c.Seq<=g.Seq->g.Seq<=B+1->look g.Database c.ai=some (eZ (a0 f) c.ai g.Seq c.Claims)->
    (∀s,s≠c.ai->look g.Database s=mq (look c.Database s) (look x.Database s))->
    fe B (gq f)/\a0 (gq f)=a0 f/\(gq f).aM.length=f.aM.length/\(∀i s,i≠x.bS->dX (gq f) i s=dX f i s)/\∀s,dX (gq f) x.bS s=look g.Database s:=by
   intro g m Q ax Z a5 aG aC aJ;rw[m]at E;have aH:(hJ f [] q).aM=a++c::b:=y;have A:a0 (gq f)=a0 f:=by rw[E];exact oT aH Q ax
   have am:(gq f).aM=a++g::b:=by rw[E];rfl
   have n:∀e,e∈(gq f).aM↔e=g\/(e∈f.aM/\e.ai≠c.ai):=λe=>by
    rw[am];have ab:=h.v.ic;rw[y]at ab;obtain⟨aY,aA,aX⟩:=mG.1 ab;rw[fI]at aA;simp only[dG,c5];rw[y];simp only[dG,c5];constructor
    .grind
    .grind
   have I:∀d,yn B f d->yn B (gq f) d:=λd k=>by
    rcases k with k|⟨e,j,o,J⟩
    .exact .inl k
    .right;by_cases X:e.ai=c.ai
     .have:=MJ h.v j t X;subst this;exact⟨g,(n g).2 (.inl rfl),by rw[A,Q,Z];exact o,by omega⟩
     .exact⟨e,(n e).2 (.inr ⟨j,X⟩),by rw[A];exact o,J⟩
   have aU:eK g.Database:=(r.n g ((n g).2 (.inl rfl))).2.2;refine⟨⟨h.bd,r,λe j=>?_,λe j s d k=>?_,λe j s d k=>?_⟩,A,by rw[am,y];simp,λi s aT=>?_,λs=>?_⟩
   .rcases(n e).1 j with rfl|⟨j,_⟩
    .refine⟨by omega,aG,?_⟩;unfold jV
     grind
    .obtain⟨aq,aw,ar⟩:=h.own e j;refine⟨aq,aw,?_⟩;unfold jV;rw[A];exact ar
   .rcases(n e).1 j with rfl|⟨j,_⟩
    .by_cases p:s=c.ai
     .rw[p,aC]at k;have:=qw k;subst this;exact .inr ⟨e,j,by rw[A,Q,Z];rfl,by show e.Seq<=e.Seq;omega⟩
     .rw[aJ s p]at k;rcases C1 (look c.Database s) (look x.Database s)with l|l
      .rw[l]at k;exact I d (h.old c t s d k)
      .rw[l]at k;exact I d (h.ng x L s d k)
    .exact I d (h.old e j s d k)
   .rw[aa]at j;exact I d (h.ng e (by rw[w];exact wz _ j) s d k)
   .have:tN (gq f) i=tN f i:=by
     cases M:tN f i with
     |some e=>
      obtain⟨R,G⟩:=(sQ h.v).1 M;exact(sQ r).2 ⟨(n e).2 (.inr ⟨R,by rw[G,u];exact aT⟩),G⟩
     |none=>
      cases aE:tN (gq f) i with
      |none=>rfl
      |some e=>
       exfalso;obtain⟨R,G⟩:=(sQ r).1 aE;rcases(n e).1 R with rfl|⟨aB,_⟩
       .omega
       .rw[(sQ h.v).2 ⟨aB,G⟩]at M;cases M
    unfold dX;rw[this]
   .have:=rz r ((n g).2 (.inl rfl)) s
    grind
  have D:∀s,dX f x.bS s=look c.Database s:=λs=>by rw[<-u];exact rz h.v t s
  have an:eO (a0 f) x.dx x.bS=false->∀i s,dX (gq f) i s=dX f i s:=λm=>by rw[F]at m;cases m
  rcases aK with V|⟨d,o,J,C⟩
  .have m:qi f c x=br.mk c.ai c.Seq c.bK c.Claims (jO c.Database x.Database):=by
    unfold qi;rw[V];exact bx (.inl ⟨by omega,rfl⟩)
   obtain⟨O,N,P,S,K⟩:=gen _ m rfl rfl rfl (pM _) az V λs _=>v s;have ak:dX (gq f) x.bS x.bS=dX f x.bS x.bS:=by grind
   refine⟨O,N,P,S,an,λ_ s p=>by rw[K,D];exact v s,λ_ _=>ak,λ_=>?_⟩;rw[ak];refine⟨u9 _,?_⟩;have l:=HW (look c.Database c.ai) (look x.Database c.ai);rw[<-v,V,<-H,u,<-D]at l;exact l
  .have aL:eC d=true:=z.ok d ((m2 z).1 o).1;have aj:d.ai=c.ai:=((m2 z).1 o).2;have Y:d≠jV f c:=λaR=>by rw[aR,x5]at C;cases C
   have a7:c.Seq<=d.Seq:=by
    have:=Q5 (yp C);exact this
   have a4:d.Seq<=B:=by
    rcases h.ng x L _ _ o with l|⟨e,j,l,aV⟩
    .exact l
    .exfalso;have aI:e.ai=c.ai:=by rw[<-aj,l];rfl
     have:=MJ h.v j t aI;subst this;have aN:d.Seq=e.Seq:=by omega
     rw[aN]at l;exact Y l
   have ag:eC (eZ (a0 f) c.ai (d.Seq+1) c.Claims)=true:=zc h.v t (by omega);have m:qi f c x=jf f (br.mk c.ai (d.Seq+1) c.bK c.Claims (jO c.Database x.Database)):=by
    unfold qi;rw[J];refine bw ?_;rintro(⟨_,l⟩|l)
    .exact Y l
    .omega
   have U:∀s,look (jf f (br.mk c.ai (d.Seq+1) c.bK c.Claims (jO c.Database x.Database))).Database s=if s=c.ai then some (hT (look (jO c.Database x.Database) s) (eZ (a0 f) c.ai (d.Seq+1) c.Claims))else look (jO c.Database x.Database) s:=λs=>Gu ay ag s
   have T:hh (eZ (a0 f) c.ai (d.Seq+1) c.Claims) d=true:=YL (by show d.Seq<d.Seq+1;omega);have ae:look (jf f (br.mk c.ai (d.Seq+1) c.bK c.Claims (jO c.Database x.Database))).Database c.ai=some (eZ (a0 f) c.ai (d.Seq+1) c.Claims):=by
    rw[U,bx rfl,J];have aD:m7 (eZ (a0 f) c.ai (d.Seq+1) c.Claims) d=true:=by
     unfold m7;rw[ag,aL,T,aj];simp[eZ]
    show some (bif m7 (eZ (a0 f) c.ai (d.Seq+1) c.Claims) d then _ else d)=_;rw[aD];rfl
   obtain⟨O,N,P,S,K⟩:=gen _ m rfl rfl rfl (by show c.Seq<=d.Seq+1;omega) (by show d.Seq+1<=B+1;omega) ae λs p=>by rw[U,bw p];exact v s
   refine⟨O,N,P,S,an,λ_ s p=>by rw[K,U,bw (by rw[u];exact p),D];exact v s,λ_ bt=>?_,λ_=>?_⟩
   .exfalso;rw[D,<-u,o,H]at bt;have bt:hh d (jV f c)=false:=bt;rw[C]at bt;cases bt
   .rw[K,D,<-u,ae,o,H];constructor
    .exact KQ (yp C) (yp T)
    .exact yp T
end
section
variable {B:Int}
section
variable {f g:aQ}{x:cF}
def qm.mono(h:qm B f g x)(i s:Int):fk (dX f i s) (dX g i s):=by
 by_cases hi:i=x.bS
 .cases H:eO (a0 f) x.dx x.bS
  .rw[h.off H];exact u9 _
  .by_cases O:s=x.bS
   .rw[hi,O];exact(h.bump H).1
   .rw[hi,h.on H s O];exact O7 _ _
 .rw[h.DQ i s hi];exact u9 _
def qm.mQ(h:qm B f g x)(O:eO (a0 f) x.dx x.bS=true)(s:Int):fk (look x.Database s) (dX g x.bS s):=by
 by_cases H:s=x.bS
 .rw[H];exact(h.bump O).2
 .rw[h.on O s H];exact HW _ _
end
def Gc(I:aQ->Prop)(e:∀f x q,fe B f->f.bg=x::q->qm B f (gq f) x->(gq f).bg=q->I f->I (gq f)):∀(n:Nat) (f:aQ),fe B f->f.bg.length=n->I f->fe B (wP n f)/\I (wP n f)
 |0,f,h,_,c=>⟨h,c⟩
 |n+1,f,h,b,c=>by
  cases a:f.bg with
  |nil=>rw[a]at b;simp at b
  |cons x q=>
   obtain⟨g,d⟩:=KB h a;refine Gc I e n (gq f) g.rd ?_ (e f x q h a g d c);rw[d];rw[a]at b;simpa using b
def x6{f:aQ}(h:fe B f)(I:aQ->Prop)(a:∀f x q,fe B f->f.bg=x::q->qm B f (gq f) x->(gq f).bg=q->I f->I (gq f))(hi:I f):I (hF f):=(Gc I a _ f h rfl hi).2
def MK{f:aQ}(h:fe B f):fe B (hF f):=(Gc (λ_=>True) (λ_ _ _ _ _ _ _ _=>trivial) _ f h rfl trivial).1
def Lw{f:aQ}(h:fe B f):a0 (hF f)=a0 f:=x6 h (λg=>a0 g=a0 f) (λ_ _ _ _ _ a _ b=>by rw[a.top];exact b) rfl
def Lx{f:aQ}(h:fe B f):(hF f).aM.length=f.aM.length:=x6 h (λg=>g.aM.length=f.aM.length) (λ_ _ _ _ _ a _ b=>by rw[a.len];exact b) rfl
def Xi{f:aQ}(h:fe B f)(i s:Int):fk (dX f i s) (dX (hF f) i s):=x6 h (λg=>fk (dX f i s) (dX g i s)) (λ_ _ _ _ _ a _ b=>u0 b (a.mono i s)) (u9 _)
def Xj{f:aQ}(h:fe B f){m:cF}(j:m∈f.bg)(i:eO (a0 f) m.dx m.bS=true)(s:Int):fk (look m.Database s) (dX (hF f) m.bS s):=by
 have:=x6 h (λg=>a0 g=a0 f/\(m∈g.bg\/fk (look m.Database s) (dX g m.bS s))) (λg x k _ d b e c=>by
  refine⟨by rw[b.top];exact c.1,?_⟩;rcases c.2 with a|a
  .rw[d]at a;rcases c5.1 a with a|a
   .subst a;right;exact b.mQ (by rw[c.1];exact i) s
   .left;rw[e];exact a
  .exact .inr (u0 a (b.mono _ _))) ⟨rfl,.inl j⟩
 rcases this.2 with a|a
 .rw[(Cs h.v).2]at a;cases a
 .exact a
structure om(T:aS)(c s:Int)(W:Option a6)(f:aQ):Prop where
 t:a0 f=T
 n:∀i,ds T [] c i->fk (dX f i s) W
 m:∀m∈f.bg,ds T [] c m.dx->fk (look m.Database s) W
 o:ds T [] c s->dX f s s=W
def om.step{T:aS}{c s:Int}{W:vr}{f g:aQ}{x:cF}{q:sD}(h:om T c s W f)(Z:f.bg=x::q)(d:qm B f g x)(ab:g.bg=q):om T c s W g:=by
 have X:x∈f.bg:=by rw[Z];simp
 have key:∀i,ds T [] c i->fk (dX g i s) W/\(i=s->dX g i s=W):=λi hi=>by
  by_cases be:i=x.bS
  .cases H:eO (a0 f) x.dx x.bS
   .rw[d.off H];exact⟨h.n i hi,λO=>by rw[O];exact h.o (by rw[<-O];exact hi)⟩
   .have Y:ds T [] c x.dx:=by
     rw[h.t]at H;exact .step hi (by rw[be];exact sU H) (by simp)
    by_cases Q:s=x.bS
    .have S:ds T [] c s:=by rw[Q,<-be];exact hi
     have bt:fk (look x.Database x.bS) (dX f x.bS x.bS):=by
      rw[<-Q,h.o S];exact h.m x X Y
     have:dX g i s=W:=by
      rw[be,Q,d.self H bt,<-Q];exact h.o S
     exact⟨by rw[this];exact u9 _,λ_=>this⟩
    .refine⟨?_,λO=>absurd (O.symm.trans be) Q⟩;rw[be,d.on H s Q];exact Q4 (h.n _ (by rw[<-be];exact hi)) (h.m x X Y)
  .rw[d.DQ i s be];exact⟨h.n i hi,λO=>by rw[O];exact h.o (by rw[<-O];exact hi)⟩
 exact⟨by rw[d.top];exact h.t,λi hi=>(key i hi).1,λm aa H=>h.m m (by rw[Z];rw[ab]at aa;exact wz _ aa) H,λS=>(key s S).2 rfl⟩
structure qk(T:aS)(c s:Int)(M:Option a6)(f:aQ):Prop where
 t:a0 f=T
 n:∀i,ds T [] c i->fk (dX f i s) M\/fk (dX f i s) (dX f s s)
 m:∀m∈f.bg,ds T [] c m.dx->fk (look m.Database s) M\/fk (look m.Database s) (dX f s s)
def qk.step{T:aS}{c s:Int}{M:vr}{f g:aQ}{x:cF}{q:sD}(h:qk T c s M f)(X:f.bg=x::q)(d:qm B f g x)(ae:g.bg=q):qk T c s M g:=by
 have aa:x∈f.bg:=by rw[X];simp
 have O:∀{o:vr},fk o M\/fk o (dX f s s)->fk o M\/fk o (dX g s s):=λZ=>Z.imp id λQ=>u0 Q (d.mono s s);refine⟨by rw[d.top];exact h.t,λi hi=>?_,λm Y H=>O (h.m m (by rw[X];rw[ae]at Y;exact wz _ Y) H)⟩;by_cases be:i=x.bS
 .cases H:eO (a0 f) x.dx x.bS
  .have:=O (h.n i hi);rw[d.off H i s];exact this
  .have ab:ds T [] c x.dx:=by
    rw[h.t]at H;exact .step hi (by rw[be];exact sU H) (by simp)
   by_cases S:s=x.bS
   .rw[be,<-S];exact .inr (u9 _)
   .rw[be,d.on H s S];rcases C1 (dX f x.bS s) (look x.Database s)with Q|Q
    .rw[Q];exact O (h.n _ (by rw[<-be];exact hi))
    .rw[Q];exact O (h.m x aa ab)
 .rw[d.DQ i s be];exact O (h.n i hi)
def Ie(f:aQ):aQ:=aQ.mk f.Links f.aM (no f f.aM)
noncomputable def nV(f:aQ):aQ:=hF (Ie f)
def CR{f:aQ}{m:cF}(b:dj f):m∈(Ie f).bg↔∃n∈f.aM,m.dx=n.ai/\m.Database=n.Database/\eO (a0 f) n.ai m.bS=true:=by
 show m∈f.aM.flatMap (rU f)↔_;rw[r8];constructor
 .rintro⟨n,a,h⟩;obtain⟨i,d,rfl⟩:=dg.1 h;exact⟨n,a,rfl,rfl,(j6 b.t).1 d⟩
 .rintro⟨n,a,g,c,e⟩;refine⟨n,a,dg.2 ⟨m.bS,(j6 b.t).2 e,?_⟩⟩;rw[<-g,<-c]
def rK{f:aQ}(h:fe B f):fe B (Ie f):=by
 refine⟨h.bd,K6 h.v (p:=f.aM) (q:=[]) (by simp),h.own,h.old,λj e i b a=>?_⟩;obtain⟨g,d,_,c,_⟩:=(CR h.v).1 e;rw[c]at a;exact h.old g d i b a
def Ts{f:aQ}(h:fe B f):fe B (nV f):=MK (rK h)
def Q6{f:aQ}(h:fe B f):a0 (nV f)=a0 f:=(Lw (rK h)).trans rfl
def Q7{f:aQ}(h:fe B f):(nV f).aM.length=f.aM.length:=(Lx (rK h)).trans rfl
def aaQ{f:aQ}(h:fe B f)(i s:Int):fk (dX f i s) (dX (nV f) i s):=Xi (rK h) i s
def aaR{f:aQ}(h:fe B f):(nV f).bg=[]:=(Cs (rK h).v).2
def Z6{f:aQ}(h:fe B f){i j:Int}(b:eO (a0 f) i j=true)(s:Int):fk (dX f i s) (dX (nV f) j s):=by
 obtain⟨a,d,c⟩:=GS (o1 h.v.t (sU b));have:=Xj (rK h) (m:=cF.mk a.ai j a.Database) ((CR h.v).2 ⟨a,d,rfl,rfl,by rw[c];exact b⟩) (by show eO (a0 f) a.ai j=true;rw[c];exact b) s;rw[<-c,rz h.v d];exact this
variable {T:aS}{W:vr}
def om.round{c s:Int}{f:aQ}(H:fe B f)(h:om T c s W f):om T c s W (nV f):=by
 refine x6 (rK H) (om T c s W) (λg x q _ Q d S hi=>hi.step Q d S) ⟨h.t,h.n,λm aa X=>?_,h.o⟩;obtain⟨n,Y,Z,O,_⟩:=(CR H.v).1 aa;rw[O,<-rz H.v Y,<-Z];exact h.n _ X
def qk.round{c s:Int}{M:vr}{f:aQ}(H:fe B f)(h:qk T c s M f):qk T c s M (nV f):=by
 refine x6 (rK H) (qk T c s M) (λg x q _ Q d S hi=>hi.step Q d S) ⟨h.t,h.n,λm aa X=>?_⟩;obtain⟨n,Y,Z,O,_⟩:=(CR H.v).1 aa;rw[O,<-rz H.v Y,<-Z];exact h.n _ X
noncomputable def eS:Nat->aQ->aQ
 |0,f=>f
 |k+1,f=>nV (eS k f)
def kG{f:aQ}(h:fe B f):∀k,fe B (eS k f)
 |0=>h
 |k+1=>Ts (kG h k)
def rL{f:aQ}(h:fe B f):∀k,a0 (eS k f)=a0 f
 |0=>rfl
 |k+1=>(Q6 (kG h k)).trans (rL h k)
def NV{f:aQ}(h:fe B f):∀k,(eS k f).aM.length=f.aM.length
 |0=>rfl
 |k+1=>(Q7 (kG h k)).trans (NV h k)
def NW(f:aQ)(k:Nat):∀l,eS (k+l) f=eS l (eS k f)
 |0=>rfl
 |l+1=>by
  show nV (eS (k+l) f)=nV (eS l (eS k f));rw[NW f k l]
def GU{f:aQ}(h:fe B f)(a:f.bg=[]):∀k,(eS k f).bg=[]
 |0=>a
 |k+1=>aaR (kG h k)
def HX{T:aS}{c s:Int}{W:vr}{f:aQ}(a:fe B f)(h:om T c s W f):∀k,om T c s W (eS k f)
 |0=>h
 |k+1=>(HX a h k).round (kG a k)
def O8{T:aS}{c s:Int}{M:vr}{f:aQ}(a:fe B f)(h:qk T c s M f):∀k,qk T c s M (eS k f)
 |0=>h
 |k+1=>(O8 a h k).round (kG a k)
def Gd{f:aQ}(h:fe B f){i0 s:Int}(hi:i0∈ids (a0 f))(i:fk W (dX f i0 s)):∀k,(ids (a0 f)).length<=k->∀j,ds (a0 f) [] i0 j->fk W (dX (eS k f) j s):=by
 have c:∀k j,fk W (dX (eS k f) j s)->fk W (dX (eS (k+1) f) j s):=λk j a=>u0 a (aaQ (kG h k) j s);have l:=ada h.v.t (λk j=>fk W (dX (eS k f) j s)) c (λk m j a g=>u0 a (Z6 (kG h k) (by rw[rL h k];exact g) s)) hi i;intro k a j e;obtain⟨b,rfl⟩:∃b,k=(ids (a0 f)).length+b:=⟨k-(ids (a0 f)).length,by omega⟩;clear a;induction b with
 |zero=>exact l j e
 |succ b d=>exact c _ j d
noncomputable def mc:List (Option a6)->vr:=List.foldr mq none
def Ng:∀(l:List (Option a6)) (o:vr),o∈l->fk o (mc l)
 |a::l,o,b=>by
  show fk o (mq a (mc l));rcases c5.1 b with rfl|b
  .exact O7 _ _
  .exact u0 (Ng l o b) (HW _ _)
theorem GV:∀l:List (Option a6),mc l=none\/mc l∈l
 |[]=>.inl rfl
 |a::l=>by
  show mq a (mc l)=none\/mq a (mc l)∈a::l;rcases C1 a (mc l)with b|b
  .grind
  .rw[b];rcases GV l with c|c
   all_goals grind
theorem ML{f:aQ}(h:fe B f)(t:f.bg=[]){c:Int}(r:c∈ids (a0 f)){k:Nat}(N:2*(ids (a0 f)).length<=k){i:Int}(hi:ds (a0 f) [] c i)(s:Int):dX (eS k f) i s=dX (eS k f) c s:=by
 classical
 have L:∃x,∀a,ds (a0 f) [] c a->dX (eS k f) a s=x:=by
  generalize q:((ids (a0 f)).filter λi=>decide (ds (a0 f) [] c i)).map (λi=>dX f i s)=l
  have e:∀a,ds (a0 f) [] c a->fk (dX f a s) (mc l):=λa b=>Ng l _ (by
   rw[<-q];exact dg.2 ⟨a,gz.2 ⟨b.ids h.v.t r,by simpa using b⟩,rfl⟩)
  have G:El (mc l):=λE j=>by
   rcases GV l with d|d
   .rw[d]at j;cases j
   .rw[<-q]at d;obtain⟨a,_,b⟩:=dg.1 d;rw[<-q,<-b]at j;exact Dd h.v a s E j
  obtain⟨i0,u,bt⟩:∃i0,ds (a0 f) [] c i0/\fk (mc l) (dX f i0 s):=by
   rcases GV l with d|d
   .exact⟨c,.refl (by simp),by rw[d];trivial⟩
   .grind
  have C:i0∈ids (a0 f):=u.ids h.v.t r;by_cases p:ds (a0 f) [] c s
  ·
   have K:s∈ids (a0 f):=p.ids h.v.t r;have z:=Gd h C bt _ (eb _) s (u.symm.trans p);have A:=O8 (T:=a0 f) (c:=c) (s:=s) (M:=mc l) h ⟨rfl,λa b=>.inl (e a b),λD e _=>by rw[t]at e;cases e⟩ (ids (a0 f)).length;generalize o:eS (ids (a0 f)).length f=g at z A;have m:fe B g:=by rw[<-o];exact kG h _
   have n:a0 g=a0 f:=by rw[<-o];exact rL h _
   have J:g.bg=[]:=by rw[<-o];exact GU h t _
   have H:∀{w:vr},fk w (mc l)\/fk w (dX g s s)->fk w (dX g s s):=λF=>F.elim (λd=>u0 d z) id;have v:om (a0 f) c s (dX g s s) g:=⟨n,λa b=>H (A.n a b),λD e _=>(by rw[J]at e;cases e),λ_=>rfl⟩;refine⟨dX g s s,λa b=>?_⟩;have I:eS k f=eS (k-(ids (a0 f)).length) g:=by
    rw[<-o,<-NW];congr 1;omega
   rw[I];have d:=Gd m (W:=dX g s s) (i0:=s) (s:=s) (by rw[n];exact K) (u9 _) (k-(ids (a0 f)).length) (by rw[n];omega) a (by rw[n];exact p.symm.trans b);exact MI (Dd (kG m _).v _ _) (Dd m.v _ _) ((HX m v _).n a b) d
  .have v:om (a0 f) c s (mc l) f:=⟨rfl,e,λD e _=>(by rw[t]at e;cases e),λh=>absurd h p⟩;refine⟨mc l,λa b=>?_⟩;have d:=Gd h C bt k (by omega) a (u.symm.trans b);exact MI (Dd (kG h _).v _ _) G ((HX h v _).n a b) d
 obtain⟨x,y⟩:=L;rw[y i hi,y c (.refl (by simp))]
end
section
structure m5(g:aS)(d:bM)(dN:Int):Prop where
 v:eK d
 a:∀r,ds g [] dN r->∃x∈d.bq,x.ai=r/\∃seq cl,x=eZ g r seq cl
section
variable {g:aS}{d:bM}{dN:Int}
variable {x:a6}
theorem m5.get(h:m5 g d dN)(H:x∈d.bq)(Q:ds g [] dN x.ai):∃seq cl,x=eZ g x.ai seq cl:=by
 obtain⟨y,O,S,seq,cl,X⟩:=h.a _ Q;have:=h.v.uniq O H S
 grind
def m5.links(h:m5 g d dN)(H:x∈d.bq)(O:ds g [] dN x.ai):x.Links=(hH g x.ai).map (j9 g x.ai):=by
 obtain⟨seq,cl,e⟩:=h.get H O;exact(fq a6.Links e).trans rfl
def m5.nb(h:m5 g d dN)(H:cE g)(Q:x∈d.bq)(S:ds g [] dN x.ai)(n:Int):(∃p∈x.Links,p.ez=n)↔eO g x.ai n=true:=by
 rw[h.links Q S,<-j6 H];constructor
 .rintro⟨p,O,rfl⟩;obtain⟨m,Y,rfl⟩:=dg.1 O;rw[s0];exact Y
 .intro X;exact⟨_,dg.2 ⟨n,X,rfl⟩,s0 _ _ _⟩
def m5.lk(h:m5 g d dN)(Q:cE g){a b:Int}(H:ds g [] dN a):qn d a b↔eO g a b=true:=by
 constructor
 .rintro⟨x,O,y,S,rfl,rfl,p,q⟩;exact(h.nb Q O H _).1 p
 .intro X;obtain⟨x,O,Z,_⟩:=h.a a H;have Y:ds g [] dN b:=.step H X (by simp);obtain⟨y,S,aa,_⟩:=h.a b Y;subst Z aa;exact⟨x,O,y,S,rfl,rfl,(h.nb Q O H _).2 X,(h.nb Q S Y _).2 (sU X)⟩
def m5.rd(h:m5 g d dN)(Q:cE g){b:Int}:Rd d dN b↔ds g [] dN b:=by
 constructor
 .intro q;induction q with
  |refl=>exact .refl (by simp)
  |step _ O H=>exact .step H ((h.lk Q H).1 O) (by simp)
 .intro q;induction q with
  |refl _=>exact .refl
  |step S O _ H=>exact .step H ((h.lk Q S).2 O)
def m5.view(h:m5 g d dN)(H:cE g)(ao:dN∈ids g){out:bX}(ab:∀x,x∈ids g->(x∉out↔ds g [] dN x)):oq d dN (lz g (gG.mk [] out)):=by
 obtain⟨aR,aN,aK,_⟩:=h.a dN (.refl (by simp));have an:=H.x7 (gG.mk [] out);have aT:∀l:bm,oo (gG.mk [] out) l=(decide (l.A∈out)||decide (l.B∈out)):=λl=>by simp[oo,mg]
 refine .inr ⟨⟨⟨aR,aN,aK⟩,h.v⟩,lz g (gG.mk [] out),⟨an.ic,λr=>?_,an.uu,λl=>?_⟩,by rw[bx (ho.2 an)]⟩
 .show r∈g.bf.filter _↔_;rw[gz];simp only[gD,iz];constructor
  .rintro⟨ae,aI⟩;have aU:r.aP∈ids g:=dg.2 ⟨r,ae,rfl⟩;have aa:=(ab _ aU).1 aI;obtain⟨a,am,e,seq,cl,aw⟩:=h.a _ aa;refine⟨a,am,(h.rd H).2 (by rw[e];exact aa),?_⟩;have ax:a.bK=r.bK:=by
    rw[aw];show ur g r.aP=_;exact Hg H ae
   rw[ax,e]
  .rintro⟨a,am,aq,rfl⟩;have aa:=(h.rd H).1 aq;have hi:=aa.ids H ao;obtain⟨r,ae,e⟩:=dg.1 hi;obtain⟨seq,cl,aw⟩:=h.get am aa;have ax:a.bK=r.bK:=by
    rw[aw];show ur g a.ai=_;rw[<-e];exact Hg H ae
   have:bV.mk a.ai a.bK=r:=by rw[ax,<-e]
   rw[this];exact⟨ae,by rw[e];exact(ab _ hi).2 aa⟩
 .show l∈g.Links.filter _↔_;rw[gz];simp only[aT,Bool.not_or,b9,gD,iz]
  have lk:∀l∈g.Links,∀x∈d.bq,∀y∈d.bq,ds g [] dN l.A->ds g [] dN l.B->x.ai=l.A->y.ai=l.B->j9 g l.A l.B∈x.Links/\j9 g l.B l.A∈y.Links/\l=AE x (j9 g l.A l.B) y (j9 g l.B l.A):=λl Y x Q y Z cx ag X jF=>by
   have S:eO g l.A l.B=true:=iJ.2 ⟨l,Y,.inl ⟨rfl,rfl⟩⟩;have aL:=h.links Q (by rw[X];exact cx);have aJ:=h.links Z (by rw[jF];exact ag);refine⟨?_,?_,?_⟩
   .rw[aL,X];exact dg.2 ⟨l.B,(j6 H).2 S,rfl⟩
   .rw[aJ,jF];exact dg.2 ⟨l.A,(j6 H).2 (sU S),rfl⟩
   .rw[GP H Y,GQ H Y];simp[AE,X,jF]
  constructor
  .rintro⟨Y,aH,aG⟩;have S:eO g l.A l.B=true:=iJ.2 ⟨l,Y,.inl ⟨rfl,rfl⟩⟩;have ay:=(ab _ (o1 H (sU S))).1 aH;have aB:=(ab _ (o1 H S)).1 aG;obtain⟨x,Q,X,_⟩:=h.a _ ay;obtain⟨y,Z,jF,_⟩:=h.a _ aB;obtain⟨dJ,bz,cw⟩:=lk l Y x Q y Z ay aB X jF;refine⟨x,Q,(h.rd H).2 (by rw[X];exact ay),y,Z,_,dJ,_,bz,by rw[X,jF];exact H.lt l Y,by rw[s0,jF],by rw[s0,X],cw⟩
  .rintro⟨x,Q,aq,y,Z,p,az,q,aE,aZ,aA,aX,e⟩;have cx:=(h.rd H).1 aq;have S:eO g x.ai y.ai=true:=(h.nb H Q cx _).1 ⟨p,az,aA⟩;have ag:ds g [] dN y.ai:=.step cx S (by simp);obtain⟨O,ar,aa⟩:=iJ.1 S;have aY:=H.lt O ar;have aj:x.ai=O.A:=by omega
   have ak:y.ai=O.B:=by omega
   obtain⟨dJ,bz,cw⟩:=lk O ar x Q y Z (by rw[<-aj];exact cx) (by rw[<-ak];exact ag) aj ak;have aC:=py (h.v.ok x Q);have aD:=py (h.v.ok y Z);have aV:p=j9 g O.A O.B:=aC.uniq az dJ (by rw[aA,s0,ak]);have aW:q=j9 g O.B O.A:=aD.uniq aE bz (by rw[aX,s0,aj]);have el:l=O:=by rw[e,aV,aW,<-cw]
   subst el;refine⟨ar,?_,?_⟩
   .rw[<-aj];exact(ab _ (cx.ids H ao)).2 cx
   .rw[<-ak];exact(ab _ (ag.ids H ao)).2 ag
end
variable {f:aQ}{k:Nat}
def seen{B:Int}(h:fe B f)(p:f.bg=[])(r:2*(ids (a0 f)).length<=k){n:br}(b:n∈(eS k f).aM):m5 (a0 f) n.Database n.ai:=by
 have a:=kG h k;have c:=rL h k;refine⟨(a.v.n n b).2.2,λt e=>?_⟩;have g:n.ai∈ids (a0 f):=by rw[<-c];exact o2 b
 have i:=e.ids h.v.t g;rw[<-c]at i;obtain⟨l,s,d⟩:=GS i;have j:=ML h p g r e t;rw[<-d,a.Tr s,d,rz a.v b]at j;have q:=(a.v.n n b).2.2;obtain⟨m,o⟩:=(m2 q).1 j.symm;refine⟨_,m,o,l.Seq,l.Claims,?_⟩;unfold jV;rw[c,d]
def LA{B:Int}(h:fe B f)(g:f.bg=[])(i:2*(ids (a0 f)).length<=k){n m:br}(b:n∈(eS k f).aM)(c:m∈(eS k f).aM)(d:ds (a0 f) [] n.ai m.ai):n.Database=m.Database:=by
 have a:=kG h k;have e:n.ai∈ids (a0 f):=by rw[<-rL h k];exact o2 b
 refine YB (a.v.n n b).2.2 (a.v.n m c).2.2 λj=>?_;rw[<-rz a.v b,<-rz a.v c];exact(ML h g e i d j).symm
end
section
variable {f:aQ}
def Xn(a:f.bg=[]):hF f=f:=by
 unfold hF;rw[a];rfl
variable {B:Int}
def round_eq(h:fe B f):qR f=some (nV (hF f),0):=YK h.v
def YM(h:fe B f)(a:f.bg=[])(k:Nat):qR (eS k f)=some (eS (k+1) f,0):=by
 rw[round_eq (kG h k),Xn (GU h a k)];rfl
def MM{α:Type}{P:List α->α->Bool}:∀(l p:List α),(∀a x b,p++l=a++x::b->P a x=true)->rY P p l=true
 |[],_,_=>rfl
 |x::l,p,h=>by
  rw[rY,h p x l rfl,hq];exact MM l (p++[x]) λa d b c=>h a d b (by rw[<-c];simp)
theorem X6{d:bM}{r:Int}{a:a6}(h:look d r=some a):hI d r=(a,true):=by
 unfold look at h
 grind
def EC(h:fe B f)(g:f.bg=[]){k:Nat}(q:2*(ids (a0 f)).length<=k):DJ (eS k f)=true:=by
 have b:=kG h k;unfold DJ;rw[n5.2 b.v,GU h g k];simp only[hP,Int.natCast_zero,Int.lt_irrefl,jQ,js,hq];refine MM _ [] λt a w d=>?_;rw[lC]at d;have i:a∈(eS k f).aM:=by rw[d];simp
 obtain⟨v,u,m⟩:=b.own a i;have s:=b.bd;have l:decide (a.Seq=0)=false:=by simp;omega
 have j:dT a.Seq 1 1000000=true:=by simp[dT];omega
 have o:(bif decide (a.Seq=0)then(oR,false)else oC (eS k f) a a.Seq)=(jV (eS k f) a,true):=by
  rw[l,bH];unfold oC;rw[j];rfl
 unfold DI;rw[o,X6 m,(yG _ _).2 rfl];simp only[hq];rw[gE];intro e r;have p:e∈(eS k f).aM:=by rw[d];simp[r]
 cases c:je (a0 (eS k f)) e.ai a.ai
 .rfl
 .have n:ds (a0 f) [] e.ai a.ai:=by
   unfold je at c;simp only[b9,eY]at c;rw[<-rL h k];exact c.2
  have:=LA h g q p i n;rw[this];simp[(Xz _ _).2 rfl]
end
section
abbrev gY:=Int->Int->ir
def mI(c:gY):Prop:=∀x a k,c x a=some k->1<=k
def sj(c:gY):gY:=λx a=>c a x
inductive fS(c:gY)(a:Int):Int->Int->Prop
 |nil:fS c a a 0
 |snoc {x b m k:Int}:fS c a x m->c x b=some k->fS c a b (m+k)
variable {a b m:Int}
def fS.C2{c:gY}(H:mI c)(h:fS c a b m):0<=m:=by
 induction h with
 |nil=>omega
 |snoc _ hk O=>have:=H _ _ _ hk;omega
variable {x:Int}
def fS.trans{c:gY}{n:Int}(h:fS c a x m)(O:fS c x b n):fS c a b (m+n):=by
 induction O with
 |nil=>simpa using h
 |snoc _ hk H=>rw[<-Int.add_assoc];exact .snoc H hk
variable {k:Int}
def fS.one{c:gY}(h:c a b=some k):fS c a b k:=by have:=fS.snoc (.nil:fS c a a 0) h;simpa using this
def fS.rev{c:gY}(h:fS c a b m):fS (sj c) b a m:=by
 induction h with
 |nil=>exact .nil
 |@snoc x b m k _ hk H=>
  have O:fS (sj c) b x k:=.one hk;have:=O.trans H
  rwa [Int.add_comm]at this
def fS.O9{c:gY}(h:fS (sj c) a b m):fS c b a m:=h.rev
def o9(c:gY)(a b k:Int):Prop:=fS c a b k/\∀m,fS c a b m->k<=m
def o9.uniq{c:gY}(h:o9 c a b k)(H:o9 c a b m):k=m:=by
 have:=h.2 _ H.1;have:=H.2 _ h.1;omega
theorem Og{c:gY}(g:mI c)(h:fS c a b m):∃k,o9 c a b k/\k<=m:=by
 have j:∀(e:Nat) (m:Int),m.toNat=e->fS c a b m->∃k,o9 c a b k/\k<=m:=by
  intro e;induction e using Nat.strongRecOn with
  |_ e o=>
   intro m p h;by_cases f:∀d,fS c a b d->m<=d
   .exact⟨m,⟨h,f⟩,pM _⟩
   .have f:∃d,fS c a b d/\¬m<=d:=by grind
    obtain⟨d,i,l⟩:=f;have n:=i.C2 g
    grind
 exact j _ m rfl h
open Classical in
noncomputable def dst(c:gY)(a b:Int):ir:=if d:∃k,o9 c a b k then some (Classical.choose d)else none
theorem j5{c:gY}:dst c a b=some k↔o9 c a b k:=by
 unfold dst;constructor
 .intro d;split at d
  all_goals grind
 .intro d;rw[dif_pos ⟨k,d⟩];exact fq some ((Classical.choose_spec (⟨k,d⟩:∃k,o9 c a b k)).uniq d)
def YO{c:gY}(e:mI c):dst c a b=none↔∀m,¬fS c a b m:=by
 constructor
 .intro d m h;obtain⟨k,f,_⟩:=Og e h;rw[j5.2 f]at d;cases d
 .intro d;cases g:dst c a b with
  |none=>rfl
  |some k=>exact absurd (j5.1 g).1 (d k)
def YP{c:gY}(b:mI c)(a:Int):dst c a a=some 0:=j5.2 ⟨.nil,λm d=>d.C2 b⟩
def Hu{c:gY}(e:mI c)(h:fS c a b m):∃k,dst c a b=some k/\k<=m:=by
 obtain⟨k,f,d⟩:=Og e h;exact⟨k,j5.2 f,d⟩
def K7{c:gY}(d:mI c)(h:dst c a b=some k):0<=k:=(j5.1 h).1.C2 d
def Z9{c:gY}(f:mI c){d i j:Int}(h:dst c a b=some i)(e:dst c b d=some j):∃k,dst c a d=some k/\k<=i+j:=
 Hu f ((j5.1 h).1.trans (j5.1 e).1)
def MN{c:gY}(d:mI c)(h:c a b=some k):∃m,dst c a b=some m/\m<=k:=Hu d (.one h)
def Ni{c:gY}:o9 (sj c) a b k↔o9 c b a k:=
 ⟨λd=>⟨d.1.O9,λm e=>d.2 m e.rev⟩,λd=>⟨d.1.rev,λm e=>d.2 m e.O9⟩⟩
def GX{c:gY}(a b:Int):dst (sj c) a b=dst c b a:=by
 cases d:dst c b a with
 |some k=>exact j5.2 (Ni.2 (j5.1 d))
 |none=>
  cases e:dst (sj c) a b with
  |none=>rfl
  |some k=>rw[j5.2 (Ni.1 (j5.1 e))]at d;cases d
def MO{c:gY}(h:dst c a b=some k)(g:a≠b):∃x w m,dst c a x=some m/\c x b=some w/\k=m+w:=by
 obtain⟨j,f⟩:=j5.1 h;cases j with
 |nil=>exact absurd rfl g
 |@snoc x b m w e d=>exact⟨x,w,m,j5.2 ⟨e,λl i=>by have:=f _ (.snoc i d);omega⟩,d,rfl⟩
def X7{c:gY}(h:dst c a b=some k)(f:a≠b):∃x w m,c a x=some w/\dst c x b=some m/\k=w+m:=by
 rw[<-GX]at h;obtain⟨x,w,m,d,e,g⟩:=MO h (et f);rw[GX]at d;exact⟨x,w,m,e,d,by omega⟩
def aaa{c:gY}(d:mI c)(h:dst c a b=some k)(f:a≠b):1<=k:=by
 obtain⟨x,j,m,g,e,i⟩:=MO h f;have:=K7 d g;have:=d _ _ _ e;omega
def hL(t:aS):gY:=λx a=>if eO t x a then some (kD t x a).1 else none
variable {t:aS}
theorem LC(a:cE t){y:Int}(h:eO t x y=true):1<=(kD t x y).1/\(kD t x y).1<=1000:=by
 obtain⟨c,b,d⟩:=iJ.1 h;have e:gf c x y=true:=by simp[gf];exact d
 rw[ms a b e];have:=a.Em c b;simp only[oB,kj,qz,pq,b9,eY]at this;unfold jo
 grind
def tf(c:cE t):mI (hL t):=λx d k a=>by
 unfold hL at a;split at a
 .rename_i b;cases a;exact(LC c b).1
 .cases a
theorem mu{y:Int}:hL t x y=some k↔eO t x y=true/\(kD t x y).1=k:=by
 unfold hL
 grind
def C3(a:cE t){y:Int}(h:hL t x y=some k):1<=k/\k<=1000:=by
 obtain⟨b,rfl⟩:=mu.1 h;exact LC a b
def vC(a:cE t){y:Int}(h:hL t x y=some k):x∈ids t/\y∈ids t:=by
 obtain⟨b,_⟩:=mu.1 h;exact⟨o1 a (sU b),o1 a b⟩
def Tt:(∃m,fS (hL t) a b m)↔ds t [] a b:=by
 constructor
 .rintro⟨m,d⟩;induction d with
  |nil=>exact .refl (by simp)
  |snoc _ hk c=>exact .step c (mu.1 hk).1 (by simp)
 .intro d;induction d with
  |refl=>exact⟨0,.nil⟩
  |step _ h1 _ c=>
   obtain⟨m,e⟩:=c;exact⟨_,.snoc e (mu.2 ⟨h1,rfl⟩)⟩
end
section
def fm{α:Type}(l:List (Int×α)):Prop:=(l.map (·.1)).Nodup
variable {α:Type}{l:List (Int×α)}
theorem Yl{n:Int}{v:α}(h:aO l n=some v):(n,v)∈l:=by
 induction l with
 |nil=>simp[aO]at h
 |cons p r a=>
  rw[h9]at h;split at h
  .grind
  .grind
def Gy{n:Int}{v:α}(a:fm l)(h:(n,v)∈l):aO l n=some v:=by
 induction l with
 |nil=>simp at h
 |cons p r b=>
  simp only[fm,dr,jX]at a;rw[h9];rcases c5.1 h with rfl|h
  .rw[bx rfl]
  .have:p.1≠n:=λc=>a.1 (by rw[c];exact dg.2 ⟨_,h,rfl⟩);rw[bw this];exact b a.2 h
theorem oW{n:Int}:(aO l n).isSome=true↔n∈l.map (·.1):=by
 induction l with
 |nil=>simp[aO]
 |cons p r b=>
  rw[h9];by_cases a:p.1=n
  .simp[a]
  .grind
theorem Ym{n m:Int}{v:α}:m∈(bW l n v).map (·.1)↔m=n\/m∈l.map (·.1):=by
 rw[<-oW,<-oW,ih]
 grind
theorem s4{n:Int}{v:α}(a:fm l):fm (bW l n v):=by
 induction l with
 |nil=>simp[bW,fm]
 |cons p r c=>
  simp only[fm,dr,jX]at a;simp only[bW];split
  .rename_i b;subst b;simp only[fm,dr,jX];exact a
  .rename_i b;simp only[fm,dr,jX];refine⟨λe=>?_,c a.2⟩;rcases Ym.1 e with d|d
   all_goals grind
theorem Gz{n:Int}(c:fm l)(m:Int):aO (kL l n) m=if m=n then none else aO l m:=by
 induction l with
 |nil=>simp[kL,aO]
 |cons p r d=>
  simp only[fm,dr,jX]at c;simp only[kL];by_cases a:p.1=n
  .rw[bx a];by_cases b:m=n
   .rw[bx b];cases e:aO r m with
    |none=>rfl
    |some v=>exact absurd (oW.1 (by rw[e];rfl)) (by rw[b,<-a];exact c.1)
   .rw[bw b,h9,bw (λf=>b (by rw[<-f,a]))]
  .rw[bw a,h9,h9,d c.2]
   grind
def aab{n:Int}(a:fm l):fm (kL l n):=by
 induction l with
 |nil=>exact a
 |cons p r b=>
  simp only[fm,dr,jX]at a;simp only[kL];split
  .exact a.2
  .rename_i d;simp only[fm,dr,jX];refine⟨λc=>a.1 ?_,b a.2⟩;have:=oW.2 c;rw[Gz a.2]at this;split at this
   .cases this
   .exact oW.1 this
variable {V:bX}
def fm.len(Q:fm l)(h:∀n v,aO l n=some v->n∈V):l.length<=V.length:=by
 have:=nU Q λx O=>by
  obtain⟨v,H⟩:=hZ.1 (oW.2 O);exact h x v H
 simpa using this
theorem fm.all(X:fm l)(aa:V.Nodup)(h:∀n v,aO l n=some v->n∈V)(ab:V.length<=l.length){x:Int}(Y:x∈V):(aO l x).isSome=true:=by
 refine zG λQ=>?_
 have S:∀y∈l.map (·.1),y∈V.erase x:=λy O=>by
  obtain⟨v,H⟩:=hZ.1 (oW.2 O);refine(List.mem_erase_of_ne λe=>Q ?_).2 (h y v H);rw[<-e,H];rfl
 have Z:=nU X S
 grind
def De(m:List (Int×Int))(n v b:Int):Bool:=((decide (b=(0:Int)))||((decide (v<((aO m b).getD (0:Int))))||((decide (v=((aO m b).getD (0:Int))))&&(decide (n<b)))))
def zx(m:List (Int×Int)):Int->Int->Int->ir:=λb c a=>bif De m b c a then some b else some a
theorem LD{m:List (Int×Int)}(w:∀n v,aO m n=some v->n≠0):∀(l:List (Int×Int)) (s:Int),(∀p∈l,aO m p.1=some p.2)->(s=0\/∃k,aO m s=some k)->
  ∃b,hb (zx m) l s=some b/\(b=s\/∃v,(b,v)∈l)/\(l≠[]->b≠0)/\(s≠0->b≠0)/\∀n v,((n,v)∈l\/(n=s/\s≠0/\aO m s=some v))->∀k,aO m b=some k->k<v\/(k=v/\b<=n)
 |[],s,_,z=>⟨s,rfl,.inl rfl,by simp,id,λn v e k a=>by
   rcases e with e|⟨rfl,_,e⟩
   .simp at e
   .rw[a]at e;cases e;exact .inr ⟨rfl,pM _⟩⟩
 |(n,v)::r,s,j,z=>by
  have i:=j (n,v) (by simp);have D:=w n v i;have step:∃c,zx m n v s=some c/\(c=n\/c=s)/\c≠0/\(∀k,aO m c=some k->k<v\/(k=v/\c<=n))/\(s≠0->∀f,aO m s=some f->∀k,aO m c=some k->k<f\/(k=f/\c<=s)):=by
   unfold zx;cases d:De m n v s with
   |true=>
    refine⟨n,rfl,.inl rfl,D,λk a=>by rw[i]at a;cases a;exact .inr ⟨rfl,pM _⟩,λM f h k a=>?_⟩;rw[i]at a;cases a
    simp only[De,h,v4,kZ,b9,eY]at d;rcases d with d|d|⟨d,I⟩
    .omega
    .exact .inl d
    .omega
   |false=>
    simp only[De,kj,BY,iz]at d;obtain⟨B,q,u⟩:=d;refine⟨s,rfl,.inr rfl,B,λk a=>?_,λ_ f h k a=>by rw[h]at a;cases a;exact .inr ⟨rfl,pM _⟩⟩;rw[a]at q u;simp only[v4]at q u;by_cases N:k=v
    .omega
    .omega
  obtain⟨c,E,O,g,K,L⟩:=step;have t:c=0\/∃k,aO m c=some k:=by grind
  obtain⟨b,y,H,G,o,A⟩:=LD w r c (λp x=>j p (by simp[x])) t;refine⟨b,by simp only[hb,E];exact y,?_,λ_=>o g,λ_=>o g,λP J e k a=>?_⟩
  .grind
  ·
   obtain⟨F,C⟩:=t.resolve_left g;have Px:=A c F (.inr ⟨rfl,g,C⟩) k a
   grind
def Yn{m:List (Int×Int)}(h:fm m)(y:∀n v,aO m n=some v->n≠0)(p:m≠[]):
  ∃b k,aO m b=some k/\(∀n v,aO m n=some v->k<v\/(k=v/\b<=n))/\rH m (zx m) 0=some b:=by
 have i:∀c:List (Int×Int),c.Perm m->∃b k,hb (zx m) c 0=some b/\aO m b=some k/\∀n v,aO m n=some v->k<v\/(k=v/\b<=n):=λc a=>by
  obtain⟨b,o,s,q,C,r⟩:=LD y c 0 (λG l=>Gy h (a.mem_iff.1 l)) (.inl rfl);have B:=q λz=>p (by rw[z]at a;exact a.symm.eq_nil);rcases s with rfl|⟨k,A⟩
  .omega
  .have g:=Gy h (a.mem_iff.1 A);exact⟨b,k,o,g,λn v j=>r n v (.inl (a.mem_iff.2 (Yl j))) k g⟩
 obtain⟨b,k,F,d,e⟩:=i m (List.Perm.refl m);refine⟨b,k,d,e,LQ λc a=>?_⟩;obtain⟨f,t,w,u,x⟩:=i c a;have D:=e f t u;have E:=x b k d;have:f=b:=by omega
 rw[w,this]
structure vf(links:List (Int×List dU))(V:List Int)(c:gY):Prop where
 keys:∀x,(aO links x).isSome=true↔x∈V
 len:links.length=V.length
 nd:V.Nodup
 small:V.length<=24
 nz:∀x∈V,x≠0
 row:∀x y k,(∃s∈(aO links x).getD [],s.ec=y/\s.hU=k)↔c x y=some k
 cs:∀x y k,c x y=some k->1<=k/\k<=1000
 D0:∀x y k,c x y=some k->y∈V
structure vc(V:List Int)(c:gY)(a:Int)(out kE:List (Int×Int)):Prop where
 IN:fm out
 kp:fm kE
 xu:∀x k,aO out x=some k->x∈V/\dst c a x=some k/\k<=1000*(out.length:Int)
 IX:∀x k,aO kE x=some k->x∈V/\aO out x=none/\fS c a x k/\k<=1000*(out.length:Int)
 cl:∀x k y w,aO out x=some k->c x y=some w->(aO out y).isSome=true\/∃m,aO kE y=some m/\m<=k+w
 st:(aO out a).isSome=true\/∃k,aO kE a=some k/\k<=0
def vf.pos{links:List (Int×zg)}{c:gY}(h:vf links V c):mI c:=λx y k H=>(h.cs x y k H).1
variable {a:Int}{kE out:List (Int×Int)}
theorem vc.front{c:gY}(Y:mI c)(h:vc V c a out kE){z m:Int}(Q:fS c a z m):(aO out z).isSome=true\/∃y k,aO kE y=some k/\k<=m:=by
 induction Q with
 |nil=>
  rcases h.st with q|⟨k,H,O⟩
  .exact .inl q
  .grind
 |@snoc x b m k S hk X=>
  have:=Y _ _ _ hk;rcases X with q|⟨y,Z,H,O⟩
  .obtain⟨d,hd⟩:=hZ.1 q;have bt:=(j5.1 (h.xu x d hd).2.1).2 _ S;rcases h.cl x d b k hd hk with q|⟨aa,H,O⟩
   all_goals grind
  .grind
def vc.done{c:gY}(X:mI c)(h:vc V c a out kE)(Q:∀z m,fS c a z m->(aO out z).isSome=true)(x:Int):aO out x=dst c a x:=by
 cases hd:dst c a x with
 |some k=>
  obtain⟨S,H⟩:=hZ.1 (Q x k (j5.1 hd).1);have:=(h.xu x S H).2.1;rw[hd]at this;cases this;exact H
 |none=>
  cases O:aO out x with
  |none=>rfl
  |some k=>have:=(h.xu x k O).2.1;rw[hd]at this;cases this
def kV{n:Int}(a : -1000000<=n)(b:n<=4000000000):a2 n=n:=by unfold a2;rw[wm];omega
theorem Ic{E:List (Int×zg)}{c:gY}(h:vf E V c)(K:a∈V):
  Ok (pV E a) (λl=>fm l/\(∀x,aO l x=dst c a x)/\∀x k,dst c a x=some k->0<=k/\k<=24000):=by
 have H:=h.pos
 have ao:∀out kE,vc V c a out kE->(∀m n,fS c a m n->(aO out m).isSome=true)->fm out/\(∀x,aO out x=dst c a x)/\∀x k,dst c a x=some k->0<=k/\k<=24000:=λout kE i G=>by
  have aq:=i.done H G;refine⟨i.IN,aq,λx k q=>⟨K7 H q,?_⟩⟩;rw[<-aq x]at q;have Q:=(i.xu x k q).2.2;have F:=i.IN.len (V:=V) λt w A=>(i.xu t w A).1;have:=h.small;omega
 unfold pV;rw[show(aO E a).isSome=true from(h.keys a).2 K];simp only[dk,bH];refine aFj (λs=>fm s.1/\(∀x,aO s.1 x=dst c a x)/\∀x k,dst c a x=some k->0<=k/\k<=24000) (λs B=>.s B) λaK ak=>?_;refine aFv (λs=>vc V c a s.1 s.2) (λs=>V.length+1-s.1.length) ?_ (by have:=h.small;omega) ?_
 .refine⟨nx,by simp[fm,bW],λx k q=>by simp[aO]at q,λx k q=>?_,λx k b aa q=>by simp[aO]at q,.inr ⟨0,by rw[ih,bx rfl],pM _⟩⟩;rw[ih]at q;split at q
  .rename_i f;subst f;cases q;exact⟨K,rfl,.nil,by simp⟩
  .simp[aO]at q
 rintro⟨out,kE⟩ a4 i ag;simp only at i ag ⊢;refine Ok.cs (λQ=>?_) λQ=>?_
 .have ax:kE≠[]:=λf=>by simp[f]at Q
  have aG:∀t w,aO kE t=some w->t≠0:=λt w A=>h.nz t (i.IX t w A).1;obtain⟨an,k,ab,aC,aE⟩:=Yn i.kp aG ax;refine Ok.af (P:=λx=>x=an) ⟨an,aE,rfl⟩ λx aw=>?_;subst aw;simp only[ab,v4];obtain⟨aL,aD,Z,aX⟩:=i.IX x k ab
  have aY:dst c a x=some k:=j5.2 ⟨Z,λn aI=>by
   rcases i.front H aI with v|⟨b,S,p,y⟩
   .grind
   .have:=aC b S p;omega⟩
  have M:(bW out x k).length=out.length+1:=Y0 aD;have N:fm (bW out x k):=s4 i.IN;have jl:=Z.C2 H
  have O:∀b d,aO (bW out x k) b=some d->b∈V/\dst c a b=some d/\d<=1000*((bW out x k).length:Int):=λb d e=>by
   rw[ih]at e;rw[M];split at e
   .grind
   .obtain⟨p,y,ae⟩:=i.xu b d e
    grind
  have aN:(bW out x k).length<=V.length:=N.len λt w A=>(O t w A).1
  have am:∀b,(aO out b).isSome=true->(aO (bW out x k) b).isSome=true:=λb e=>by
   rw[ih];split
   .rfl
   .exact e
  refine Ok.cs (λF=>ak _ ?_) λF=>?_
  ·
   have F:(bW out x k).length=E.length:=by have:=fF F;omega
   have G:∀m∈V,(aO (bW out x k) m).isSome=true:=λm aJ=>N.all h.nd (λt w A=>(O t w A).1) (by rw[F,h.len];exact eb _) aJ
   have ar:∀m n,fS c a m n->m∈V:=λm n o=>by
    cases o with
    |nil=>exact K
    |snoc _ q=>exact h.D0 _ _ _ q
   refine ao _ [] ⟨N,nx,O,λb d e=>by simp[aO]at e,λb d m aa e o=>.inl (G m (h.D0 _ _ _ o)),.inl (G a K)⟩ λm n o=>G m (ar m n o)
  .refine aFg (L:=(aO E x).getD []) (λY n=>fm n/\(∀b d,aO n b=some d->b∈V/\aO (bW out x k) b=none/\fS c a b d/\d<=1000*((bW out x k).length:Int))/\(∀b d,b≠x->aO kE b=some d->∃j,aO n b=some j/\j<=d)/\
    ∀s∈Y,(aO (bW out x k) s.ec).isSome=true\/∃j,aO n s.ec=some j/\j<=k+s.hU) ?_ _ ?_ ?_
   .rintro Y s aZ n aW ay ⟨I,J,D,C⟩ aA;have B:s∈(aO E x).getD []:=by rw[ay];simp
    have X:=(h.row x s.ec s.hU).1 ⟨s,B,rfl,rfl⟩;obtain⟨aT,aR⟩:=h.cs _ _ _ X;have o:a2 (k+s.hU)=k+s.hU:=kV (by omega) (by have:=h.small;omega)
    refine aFj (λz=>fm z/\(∀b d,aO z b=some d->b∈V/\aO (bW out x k) b=none/\fS c a b d/\d<=1000*((bW out x k).length:Int))/\(∀b d,b≠x->aO kE b=some d->∃j,aO z b=some j/\j<=d)/\
     ∀r∈Y++[s],(aO (bW out x k) r.ec).isSome=true\/∃j,aO z r.ec=some j/\j<=k+r.hU) (λz aB=>aA z aB) λaU R=>?_
    refine Ok.cs (λT=>R n ⟨I,J,D,λr g=>?_⟩) λT=>Ok.cs (λu=>R _ ?_) λu=>R n ⟨I,J,D,λr g=>?_⟩
    .rcases dG.1 g with g|g
     .exact C r g
     .rw[gL.1 g];exact .inl T
    ·
     rw[o];rw[o]at u;refine⟨s4 I,λb d e=>?_,λb d W e=>?_,λr g=>?_⟩
     .rw[ih]at e;split at e
      .rename_i f;subst f;cases e
       refine⟨h.D0 _ _ _ X,by simpa using T,.snoc Z X,by rw[M];omega⟩
      .exact J b d e
     .obtain⟨j,p,y⟩:=D b d W e;rw[ih];by_cases f:b=s.ec
      .rw[bx f];refine⟨_,rfl,?_⟩;subst f;rw[p]at u;simp at u;omega
      .rw[bw f];exact⟨j,p,y⟩
     .rw[ih n];by_cases f:r.ec=s.ec
      .rcases dG.1 g with g|g
       .rcases C r g with v|⟨j,p,y⟩
        .exact .inl v
        .right;rw[bx f];refine⟨_,rfl,?_⟩;rw[f]at p;rw[p]at u;simp at u;omega
       .rw[gL.1 g,bx rfl];exact .inr ⟨_,rfl,pM _⟩
      .rw[bw f];rcases dG.1 g with g|g
       .exact C r g
       .exact absurd (by rw[gL.1 g]) f
    .rcases dG.1 g with g|g
     .exact C r g
     .rw[gL.1 g];right;rw[o]at u;simp only[kj,qz,iz]at u;obtain⟨j,aj⟩:=hZ.1 u.1;refine⟨j,aj,?_⟩;have:=u.2;rw[aj]at this;simp at this;omega
   .refine⟨aab i.kp,λb d e=>?_,λb d W e=>⟨d,by rw[Gz i.kp,bw W];exact e,pM _⟩,λs B=>by simp at B⟩;rw[Gz i.kp]at e;split at e
    .cases e
    .rename_i f;obtain⟨p,y,ae,aV⟩:=i.IX b d e;exact⟨p,by rw[ih,bw f];exact y,ae,by rw[M];omega⟩
   .rintro n ⟨I,J,D,C⟩;refine ag _ ⟨N,I,O,J,λb d m aa e o=>?_,?_⟩ (by simp only[M];omega)
    .rw[ih]at e;split at e
     .rename_i f;subst f;cases e
      obtain⟨s,B,rfl,rfl⟩:=(h.row _ _ _).2 o;exact C s B
     .rcases i.cl b d m aa e o with v|⟨z,p,y⟩
      .exact .inl (am m v)
      .by_cases f:m=x
       .left;rw[ih,bx f];rfl
       .obtain⟨j,U,az⟩:=D m z f p;exact .inr ⟨j,U,by omega⟩
    .rcases i.st with v|⟨S,p,y⟩
     .exact .inl (am a v)
     .by_cases f:a=x
      .left;rw[ih,bx f];rfl
      .obtain⟨j,U,az⟩:=D a S f p;exact .inr ⟨j,U,by omega⟩
 ·
  have aH:kE=[]:=by
   have:=of_decide_eq_false Q;exact mN (by omega)
  subst aH;refine ak _ (ao _ _ i λm n o=>?_);rcases i.front H o with v|⟨b,k,v,_⟩
  .exact v
  .simp[aO]at v
def Nj{b:List (Int×zg)}(c:(aO b a).isSome=false):pV b a=some []:=by
 unfold pV;rw[c];rfl
end
section
theorem KS{α:Type}{d:α->α->Int}(o:∀a b c,d a b<0->d b c<0->d a c<0):∀{l:List α},(l.Pairwise λa b=>d a b<0\/d b a<0)->(m8 d l).Pairwise λa b=>d a b<0
 |[],_=>List.Pairwise.nil
 |x::r,h=>by
  rw[fI]at h;have g:=KS o h.2;have i:∀e∈m8 d r,d x e<0\/d e x<0:=λe n=>h.1 e ((x2 d r).mem_iff.1 n);simp only[m8];generalize m8 d r=j at g i;clear h;induction j with
  |nil=>simp[qE]
  |cons e j p=>
   rw[fI]at g;simp only[qE];split
   .rename_i m;rw[fI];refine⟨λk f=>?_,p g.2 λk f=>i k (by simp[f])⟩;rcases c5.1 ((Ce d x j).mem_iff.1 f)with rfl|f
    all_goals grind
   .rename_i m;have q:=(i e (by simp)).resolve_right m;rw[fI];refine⟨λk f=>?_,fI.2 g⟩
    grind
def LF{α:Type}{c:α->α->Int}:∀{l:List α},(l.Pairwise λa b=>c a b<0)->qF c l=true
 |[],_=>rfl
 |[x],_=>rfl
 |a::b::r,h=>by
  rw[fI]at h;simp only[qF,b9,eY];exact⟨h.1 b (by simp),LF h.2⟩
theorem WV{α:Type}(f:α->Int){a b:List α}(d:a.Pairwise λx y=>f x<f y)(c:b.Pairwise λx y=>f x<f y)(h:∀x,x∈a↔x∈b):a=b:=by
 induction a generalizing b with
 |nil=>
  cases b with
  |nil=>rfl
  |cons y b=>exact absurd ((h y).2 (by simp)) (by simp)
 |cons x a e=>
  cases b with
  |nil=>exact absurd ((h x).1 (by simp)) (by simp)
  |cons y b=>
   rw[fI]at d c;have g:x=y:=by grind
   subst g;congr 1;refine e d.2 c.2 λi=>?_;have:=h i;simp only[c5]at this;constructor
   .grind
   .grind
def fm.ext{α:Type}:∀{l m:List (Int×α)},fm l->l.map (·.1)=m.map (·.1)->(∀x,aO l x=aO m x)->l=m
 |[],m,_,H,_=>by
  cases m with
  |nil=>rfl
  |cons q m=>simp at H
 |(n,v)::l,[],_,H,_=>by simp at H
 |(n,v)::l,(ae,ab)::m,O,H,h=>by
  simp only[dr,iV]at H;obtain⟨rfl,H⟩:=H;simp only[fm,dr,jX]at O;have Y:=h n;rw[h9,h9,bx rfl,bx rfl]at Y;cases Y;congr 1;refine fm.ext O.2 H λx=>?_;have X:=h x;rw[h9,h9]at X;by_cases Q:n=x
  .subst Q;have Z:aO l n=none:=by
    cases S:aO l n with
    |none=>rfl
    |some a=>exact absurd (oW.1 (by rw[S];rfl)) O.1
   have aa:aO m n=none:=by
    cases S:aO m n with
    |none=>rfl
    |some a=>exact absurd (by rw[H];exact oW.1 (by rw[S];rfl)) O.1
   rw[Z,aa]
  .rwa [bw Q,bw Q]at X
def hM(x:Int)(l:bm):Option dU:=if l.A=x then some ⟨l.B,l.iA⟩else if l.B=x then some ⟨l.A,l.iq⟩else none
def oL(x:Int)(l:bm):Option dU:=if l.B=x then some ⟨l.A,l.iA⟩else if l.A=x then some ⟨l.B,l.iq⟩else none
variable {t:aS}
def MP(d:cE t)(x y k:Int):(∃s∈t.Links.filterMap (hM x),s.ec=y/\s.hU=k)↔hL t x y=some k:=by
 rw[mu];constructor
 .rintro⟨s,h,rfl,rfl⟩;obtain⟨a,b,c⟩:=iB.1 h;have i:=d.lt a b;unfold hM at c;split at c
  .rename_i e;cases c
   have f:gf a x a.B=true:=by simp[gf,e]
   refine⟨iJ.2 ⟨a,b,.inl ⟨e,rfl⟩⟩,?_⟩;rw[ms d b f];simp[jo,e]
  .split at c
   .rename_i e g;cases c
    have f:gf a x a.A=true:=by simp[gf,g]
    refine⟨iJ.2 ⟨a,b,.inr ⟨g,rfl⟩⟩,?_⟩;rw[ms d b f];simp[jo,e]
   .cases c
 .rintro⟨f,rfl⟩;obtain⟨a,b,c⟩:=iJ.1 f;have i:=d.lt a b;rcases c with⟨rfl,rfl⟩|⟨rfl,rfl⟩
  .refine⟨⟨a.B,a.iA⟩,iB.2 ⟨a,b,by simp[hM]⟩,rfl,?_⟩;rw[ms d b (by simp[gf])];simp[jo]
  .refine⟨⟨a.A,a.iq⟩,iB.2 ⟨a,b,by have:a.A≠a.B:=by omega
                                  simp[hM,this]⟩,rfl,?_⟩
   have:a.A≠a.B:=by omega
   rw[ms d b (by simp[gf])];simp[jo,this]
def aac(d:cE t)(x y k:Int):(∃s∈t.Links.filterMap (oL x),s.ec=y/\s.hU=k)↔sj (hL t) x y=some k:=by
 show _↔hL t y x=some k;rw[mu];constructor
 .rintro⟨s,h,rfl,rfl⟩;obtain⟨a,b,c⟩:=iB.1 h;have i:=d.lt a b;unfold oL at c;split at c
  .rename_i f;cases c
   have e:gf a a.A x=true:=by simp[gf,f]
   refine⟨iJ.2 ⟨a,b,.inl ⟨rfl,f⟩⟩,?_⟩;rw[ms d b e];simp[jo,f]
  .split at c
   .rename_i f g;cases c
    have e:gf a a.B x=true:=by simp[gf,g]
    refine⟨iJ.2 ⟨a,b,.inr ⟨rfl,g⟩⟩,?_⟩;have:¬a.A=a.B:=by omega
    rw[ms d b e];simp[jo,this]
   .cases c
 .rintro⟨e,rfl⟩;obtain⟨a,b,c⟩:=iJ.1 e;have i:=d.lt a b;rcases c with⟨rfl,rfl⟩|⟨rfl,rfl⟩
  .refine⟨⟨a.A,a.iA⟩,iB.2 ⟨a,b,by simp[oL]⟩,rfl,?_⟩;rw[ms d b (by simp[gf])];simp[jo]
  .refine⟨⟨a.B,a.iq⟩,iB.2 ⟨a,b,by have:a.B≠a.A:=by omega
                                  simp[oL,this]⟩,rfl,?_⟩
   have:a.A≠a.B:=by omega
   rw[ms d b (by simp[gf])];simp[jo,this]
def pG(t:aS)(x:Int):zg:=(hH t x).map λa=>⟨a,(kD t x a).1⟩
theorem CD(a:cE t){x:Int}{s:dU}:s∈pG t x↔hL t x s.ec=some s.hU:=by
 rw[mu];simp only[pG,dg,j6 a];constructor
 .grind
 .rintro⟨c,b⟩;exact⟨s.ec,c,by rw[b]⟩
def Yo(c:cE t)(x:Int):(pG t x).Pairwise λa b=>a.ec<b.ec:=lq.2 (u7 c x)
abbrev pH:dU->dU->Int:=eF [λa:dU=>a.ec]
def GY(a b:dU):pH a b<0↔a.ec<b.ec:=by rw[pH,uY];simp[eF]
theorem aad(d:cE t)(x:Int):(t.Links.filterMap (hM x)).Pairwise λa b=>pH a b<0\/pH b a<0:=by
 have c:=KO d x;have e:t.Links.filterMap (n3 x)=(t.Links.filterMap (hM x)).map (·.ec):=by
  rw[List.map_filterMap];congr 1;funext g;unfold n3 hM
  grind
 rw[e]at c;refine(lq.1 c).imp λ{a b} f=>?_;rw[GY,GY];omega
theorem MQ(a:cE t)(x:Int):kg pH (t.Links.filterMap (hM x))=some (pG t x):=by
 have f:=KS (sP _) (aad a x);have h:m8 pH (t.Links.filterMap (hM x))=pG t x:=by
  refine WV (·.ec) (f.imp λ{d e} i=>(GY d e).1 i) (Yo a x) λb=>?_;rw[(x2 _ _).mem_iff,CD a];constructor
  .intro c;exact(MP a x b.ec b.hU).1 ⟨b,c,rfl,rfl⟩
  .intro c;obtain⟨g,k,l,n⟩:=(MP a x b.ec b.hU).2 c;obtain⟨d,e⟩:=b;obtain⟨o,m⟩:=g
   grind
 have j:(t.Links.filterMap (hM x)).length<=60:=gP (List.length_filterMap_le _ _) a.nl;have:(decide ((t.Links.filterMap (hM x)).length<4611686018427387904))=true:=by simp;omega
 unfold kg;rw[LF f,this,h];rfl
theorem LG{rk:zg->zg}:∀(l s:List (Int×zg)),fm l->(∀p∈l,∃row,aO s p.1=some row/\kg pH row=some (rk row))->
  ∃a,hb (λ(c:Int) (_:zg) (b:List (Int×zg))=>eD (aO b c).isSome (af (kg pH ((aO b c).getD [])) λ(o:zg)=>some (bW b c o))) l s=some a/\
   a.map (·.1)=s.map (·.1)/\∀x,aO a x=if x∈l.map (·.1)then(aO s x).map rk else aO s x
 |[],s,_,_=>⟨s,rfl,rfl,λx=>by simp⟩
 |(n,v)::l,s,hk,h=>by
  simp only[fm,dr,jX]at hk;obtain⟨row,e,g⟩:=h (n,v) (by simp)
  obtain⟨a,f,k,j⟩:=LG (rk:=rk) l (bW s n (rk row)) hk.2 λp d=>by
   obtain⟨r,i,m⟩:=h p (by simp[d]);have:p.1≠n:=λq=>hk.1 (by rw[<-q];exact dg.2 ⟨p,d,rfl⟩);exact⟨r,by rw[ih,bw this];exact i,m⟩
  refine⟨a,?_,k.trans (F4 _ (by rw[e];rfl)),λx=>?_⟩
  .simp only[hb,e,Option.isSome_some,v4,g];exact f
  .rw[j,ih]
   grind
structure Fm(t:aS)(g:sE):Prop where
 fw:vf g.jd (ids t) (hL t)
 sq:vf g.nc (ids t) (sj (hL t))
 row:∀x∈ids t,aO g.jd x=some (pG t x)
theorem Oh(d:cE t){g:List (Int×zg)}{c:gY}{f:Int->zg}(n:fm g)(e:∀x,aO g x=if x∈ids t then some (f x)else none)
  (p:∀x y k,(∃s∈f x,s.ec=y/\s.hU=k)↔c x y=some k) (i:∀x y k,c x y=some k->(1<=k/\k<=1000)/\x∈ids t/\y∈ids t):vf g (ids t) c where
 keys:=λx=>by rw[e];by_cases a:x∈ids t<;>simp[a]
 len:=by
  have m:(ids t).Nodup:=(C7 d).imp λa=>Int.ne_of_lt a
  have j:=n.len (V:=ids t) λq r a=>by
   rw[e]at a;split at a
   .assumption
   .cases a
  have l:=nU m (b:=g.map (·.1)) λx h=>oW.1 (by rw[e,bx h];rfl);rw[iO]at l;omega
 nd:=(C7 d).imp λa=>Int.ne_of_lt a
 small:=sZ d
 nz:=λx h=>by
  obtain⟨o,j,rfl⟩:=dg.1 h;have:=(d.uz o j).1;omega
 row:=λx y k=>by
  rw[e];by_cases a:x∈ids t
  .grind
  .grind
 cs:=λx y k a=>(i x y k a).1
 D0:=λx y k a=>(i x y k a).2.2
theorem Nk(d:cE t):Ok (Bc t) (Fm t):=by
 unfold Bc
 have Z:∀e∈t.Links,e.A∈ids t/\e.B∈ids t/\e.A≠e.B:=λe i=>by
  have q:=d.ends e i;have v:=d.lt e i;exact⟨mB.2 q.1,mB.2 q.2,by omega⟩
 refine aFg (λc s=>(fm s.1/\∀a,aO s.1 a=if a∈c.map (·.aP)then some []else none)/\(fm s.2/\∀a,aO s.2 a=if a∈c.map (·.aP)then some []else none)) ?_ _ ?_ ?_
 .rintro c b ak ⟨ae,aa⟩ a4 _ ⟨⟨q,v⟩,x,y⟩ J;refine J _ ⟨⟨s4 q,λa=>?_⟩,s4 x,λa=>?_⟩
  .rw[ih,v]
   grind
  .rw[ih,y]
   grind
 .exact⟨⟨nx,λa=>by simp[aO]⟩,nx,λa=>by simp[aO]⟩
 rintro⟨ae,aa⟩ ⟨⟨q,v⟩,x,y⟩;simp only at q v x y ⊢;refine aFg (λc s=>(fm s.1/\∀a,aO s.1 a=if a∈ids t then some (c.filterMap (hM a))else none)/\(fm s.2/\∀a,aO s.2 a=if a∈ids t then some (c.filterMap (oL a))else none)) ?_ _ ⟨⟨q,λa=>by rw[v];rfl⟩,x,λa=>by rw[y];rfl⟩ ?_
 .rintro c b ak ⟨j,M⟩ a4 Q ⟨⟨k,h⟩,w,o⟩ J;simp only at k h w o ⊢;obtain⟨z,A,B⟩:=Z b (by rw[Q];simp);have E:c.length<=60:=by have:=d.nl;rw[Q]at this;simp at this;omega
  have W:∀(p:bm->Option dU),(c.filterMap p).length<=60:=λp=>gP (List.length_filterMap_le _ _) E;have C:∀(p:bm->Option dU) (s:dU),dm (c.filterMap p) [s]=some (c.filterMap p++[s]):=λp s=>g9 (by have:=W p;simp;omega);have ag:(aO j b.A).getD []=c.filterMap (hM b.A):=by rw[h,bx z];rfl
  have aj:∀e,(aO (bW j b.A e) b.B).getD []=c.filterMap (hM b.B):=λe=>by rw[ih,bw (et B),h,bx A];rfl
  have X:(aO M b.B).getD []=c.filterMap (oL b.B):=by rw[o,bx A];rfl
  have Y:∀e,(aO (bW M b.B e) b.A).getD []=c.filterMap (oL b.A):=λe=>by rw[ih,bw B,o,bx z];rfl
  rw[ag,C,aR,aj,C,aR,X,C,aR,Y,C,aR];refine J _ ⟨⟨s4 (s4 k),λa=>?_⟩,s4 (s4 w),λa=>?_⟩
  .rw[ih,ih,h,r5];by_cases m:a=b.B
   .subst m;rw[bx rfl,bx A];simp[hM,B]
   .rw[bw m];by_cases n:a=b.A
    .subst n;rw[bx rfl,bx z];simp[hM]
    .rw[bw n];have:hM a b=none:=by simp[hM,et n,et m]
     simp[this]
  .rw[ih,ih,o,r5];by_cases n:a=b.A
   .subst n;rw[bx rfl,bx z];simp[oL,et B]
   .rw[bw n];by_cases m:a=b.B
    .subst m;rw[bx rfl,bx A];simp[oL]
    .rw[bw m];have:oL a b=none:=by simp[oL,et n,et m]
     simp[this]
 rintro⟨j,M⟩ ⟨⟨k,h⟩,w,o⟩;simp only at k h w o ⊢
 have rk:∀l:List (Int×zg),l.Perm j->∃r,hb (λ(K:Int) (_:zg) (G:List (Int×zg))=>eD (aO G K).isSome (af (kg pH ((aO G K).getD [])) λ(ab:zg)=>some (bW G K ab))) l j=some r/\
   r.map (·.1)=j.map (·.1)/\∀a,aO r a=if a∈ids t then some (pG t a)else none:=λl i=>by
  obtain⟨r,F,I,H⟩:=LG (rk:=λam=>(kg pH am).getD []) l j ((i.map _).nodup_iff.2 k) λc E=>by
   have R:=Gy k (i.mem_iff.1 E);have u:=h c.1;rw[R]at u;split at u
   .have u:=qw u;exact⟨_,R,by rw[u,MQ d];rfl⟩
   .cases u
  refine⟨r,F,I,λa=>?_⟩;rw[H,h];have U:a∈l.map (·.1)↔a∈ids t:=by
   rw[(i.map _).mem_iff,<-oW,h];by_cases f:a∈ids t<;>simp[f]
  by_cases f:a∈ids t
  .rw[bx (U.2 f),bx f,bx f];simp[MQ d]
  .rw[bw (λg=>f (U.1 g)),bw f,bw f]
 obtain⟨D,an,S,L⟩:=rk j (List.Perm.refl _);have T:fm D:=by rw[fm,S];exact k
 refine Ok.af (P:=λa=>a=D) ⟨D,LQ λl i=>?_,rfl⟩ λa f=>?_
 .obtain⟨r,F,I,H⟩:=rk l i;rw[fm.ext T (S.trans I.symm) λa=>by rw[L,H]];exact F
 subst f;refine .s ⟨Oh d T L (λa O N=>?_) λa O N g=>⟨C3 d g,vC d g⟩,Oh d w o (aac d) λa O N g=>⟨C3 d g,(vC d g).2,(vC d g).1⟩,λa f=>by rw[L,bx f]⟩;constructor
 .rintro⟨s,V,rfl,rfl⟩;exact(CD d).1 V
 .intro g;exact⟨⟨O,N⟩,(CD d).2 g,rfl,rfl⟩
end
section
theorem WA{α:Type}{p q:α->Bool}{l:List α}(h:∀x∈l,q x=true->p x=true):(l.filter q).length<=(l.filter p).length/\∀x∈l,p x=true->q x=false->(l.filter q).length<(l.filter p).length:=by
 induction l with
 |nil=>simp
 |cons y l g=>
  obtain⟨e,i⟩:=g λx a=>h x (by simp[a]);have f:=h y (by simp);cases b:q y with
  |true=>
   rw[DA b,DA (f b)];refine⟨by simpa using e,λx a d c=>?_⟩;rcases c5.1 a with rfl|a
   .rw[b]at c;cases c
   .grind
  |false=>
   rw[Dz (by simp[b])];cases d:p y with
   |true=>
    rw[DA d];simp only[fW];exact⟨by omega,λx a _ _=>by omega⟩
   |false=>
    rw[Dz (by simp[d])];refine⟨e,λx a j c=>?_⟩;rcases c5.1 a with rfl|a
    .grind
    .exact i x a j c
def X8{t:aS}(d:cE t){a b k:Int}(c:a∈ids t)(h:dst (hL t) a b=some k):0<=k/\k<=24000:=by
 obtain⟨i,j,e⟩:=Nk d;obtain⟨l,g,f⟩:=Ic e.fw c;exact f.2.2 b k h
end
section
open Classical in
noncomputable def fH(t:aS)(a b:Int):ir:=if h3 t=0/\a∈ids t/\b∈ids t then dst (hL t) a b else none
variable {a b:Int}{t:aS}
def qq(e:cE t)(d:a∈ids t)(c:b∈ids t):fH t a b=dst (hL t) a b:=by
 unfold fH;rw[bx ⟨ho.2 e,d,c⟩]
variable {k:Int}
def tr(h:fH t a b=some k):cE t/\a∈ids t/\b∈ids t/\dst (hL t) a b=some k:=by
 unfold fH at h;split at h
 .rename_i c;exact⟨ho.1 c.1,c.2.1,c.2.2,h⟩
 .cases h
def Oi(h:¬(h3 t=0/\a∈ids t/\b∈ids t)):fH t a b=none:=by unfold fH;rw[bw h]
def MR(h:fH t a b=some k):0<=k/\k<=24000:=by
 obtain⟨d,c,f,e⟩:=tr h;exact X8 d c e
def Nl(c:cE t)(b:a∈ids t):fH t a a=some 0:=by rw[qq c b b,YP (tf c)]
theorem Pb(d:cE t){g:sE}(f:Fm t g)(b:Int):∃l,pV g.nc b=some l/\∀x,aO l x=fH t x b:=by
 by_cases a:b∈ids t
 .obtain⟨l,i,_,h,_⟩:=Ic f.sq a;refine⟨l,i,λx=>?_⟩;rw[h,GX];by_cases c:x∈ids t
  .rw[qq d c a]
  .rw[Oi (λe=>c e.2.1)]
   exact(YO (tf d)).2 λk j=>c (by
    cases j.rev with
    |nil=>exact absurd a c
    |snoc _ hk=>exact(vC d hk).1)
 .refine⟨[],Nj ?_,λx=>by rw[Oi (λe=>a e.2.2)];rfl⟩;have:=f.sq.keys b
  grind
def Yp(t:aS):A6 t=some (decide (h3 t=0)):=by unfold A6;rw[qb];rfl
noncomputable def p8(t:aS)(b x y:Int):Bool:=match fH t x b,fH t y b with
 |some all,some c=>decide ((kD t x y).1+c=all)
 |_,_=>false
noncomputable def hK(t:aS)(b x:Int):bX:=(hH t x).filter (p8 t b x)
def K8{x:Int}(h:fH t x b=none):hK t b x=[]:=by
 unfold hK;rw[qB];intro a _;simp[p8,h]
def Ge(a:cE t)(x:Int):(hH t x).length<=24:=gP (oz _ _) (sZ a)
def Yq(d:cE t){g:sE}(p:Fm t g){l:List (Int×Int)}(f:∀x,aO l x=fH t x b)(x:Int):w5 g l x=some (hK t b x):=by
 unfold w5;rw[f];cases a:fH t x b with
 |none=>rw[K8 a];rfl
 |some all=>
  obtain⟨_,n,q,_⟩:=tr a;have u:=MR a;simp only[Option.isSome_some,dk,bH,v4];rw[p.row x n];have v:=Ge d x;refine(uZ (λs:dU=>p8 t b x s.ec) (·.ec) (pG t x) 0 [] (λw s a4 y o j=>?_) (by simp[pG];omega)).trans ?_
  .have h:=(CD d).1 o;have r:=C3 d h;have m:=(mu.1 h).2;simp only[jn,f];cases e:fH t s.ec b with
   |none=>simp[p8,a,e]
   |some c=>
    have:=MR e;rw[show p8 t b x s.ec=decide (s.hU+c=all)by simp[p8,a,e,m]];simp only[Option.isSome_some,hq,v4];have k:a2 (s.hU+c)=s.hU+c:=kV (by omega) (by omega);simp only[k];rw[jU j];rfl
  .rw[lC,pG,List.filter_map,nv];have:((λ(x:dU)=>x.ec)∘λi=>(⟨i,(kD t x i).1⟩:dU))=id:=rfl;rw[this,List.map_id];rfl
end
section
variable {b x:Int}{t:aS}
def vn(d:cE t){y:Int}:y∈hK t b x↔∃w m k,hL t x y=some w/\fH t y b=some m/\fH t x b=some k/\w+m=k:=by
 unfold hK;rw[gz,j6 d];constructor
 .rintro⟨c,a⟩;unfold p8 at a;split at a
  .rename_i i j l n;exact⟨_,j,i,mu.2 ⟨c,rfl⟩,n,l,fF a⟩
  .cases a
 .rintro⟨w,m,k,c,a,e,g⟩;obtain⟨h,f⟩:=mu.1 c;exact⟨h,by simp[p8,a,e,f,g]⟩
theorem LH(a:cE t){y:Int}(h:y∈hK t b x):∃m k,fH t y b=some m/\fH t x b=some k/\m<k:=by
 obtain⟨g,m,k,c,d,e,f⟩:=(vn a).1 h;have:=(C3 a c).1
 grind
def yQ{y:Int}(a:cE t)(h:y∈hK t b x):y∈ids t:=by
 obtain⟨e,d,c,_⟩:=LH a h;exact(tr c).2.1
def Yr(a:cE t)(b x:Int):(hK t b x).length<=24:=gP (oz _ _) (Ge a x)
def K9(a:cE t)(b x:Int):(hK t b x).Pairwise (·<·):=(u7 a x).sublist pN
def aae{k:Int}(h:fH t x b=some k)(f:x≠b):∃y,y∈hK t b x:=by
 obtain⟨a,l,d,g⟩:=tr h;obtain⟨y,j,i,c,e,m⟩:=X7 g f;exact⟨y,(vn a).2 ⟨j,i,k,c,by rw[qq a (vC a c).2 d];exact e,h,by omega⟩⟩
noncomputable def CS(t:aS)(b x y:Int):Bool:=match fH t y b,fH t x b with
 |some m,some k=>decide (m<k)
 |_,_=>false
noncomputable def lV(t:aS)(b x:Int):Nat:=((ids t).filter (CS t b x)).length
theorem GZ(a:cE t){y:Int}(h:y∈hK t b x):lV t b y<lV t b x:=by
 obtain⟨j,i,c,d,e⟩:=LH a h;refine(WA λk g f=>?_).2 y (yQ a h) (by simp[CS,c,d,e]) (by simp[CS,c]);unfold CS at f ⊢
 grind
def Pc(b x:Int):lV t b x<=(ids t).length:=oz _ _
end
section
variable {a b:Int}{t:aS}
def aaf(d:cE t)(g:a∈ids t)(f:b∈ids t):(fH t a b).isSome=true↔ds t [] a b:=by
 rw[qq d g f,<-Tt];constructor
 .intro h;obtain⟨e,c⟩:=hZ.1 h;exact⟨e,(j5.1 c).1⟩
 .rintro⟨j,i⟩;obtain⟨e,c,_⟩:=Hu (tf d) i;rw[c];rfl
def Q8{c i j:Int}(m:fH t a c=some i)(g:fH t c b=some j):∃k,fH t a b=some k/\k<=i+j:=by
 obtain⟨d,f,_,l⟩:=tr m;obtain⟨_,_,e,h⟩:=tr g;obtain⟨k,n,bt⟩:=Z9 (tf d) l h;exact⟨k,by rw[qq d f e];exact n,bt⟩
def aag(c:cE t){w:Int}(h:hL t a b=some w):∃k,fH t a b=some k/\k<=w:=by
 obtain⟨k,f,bt⟩:=MN (tf c) h;obtain⟨e,d⟩:=vC c h;exact⟨k,by rw[qq c e d];exact f,bt⟩
end
end Go.Proofs.YtemmkpdjmgafoaaGreatDoor
