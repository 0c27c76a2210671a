/- A part of the proof; the last text says of what. No condition but those that stand in each. -/
import Derived.Test.YtmnbolcmepihlaaGreatZ8
import Derived.Test.YtmnbolcmepihlaaGreatZ6
import Derived.Test.YtmnbolcmepihlaaGreatZ7
namespace Go.Proofs.YtmnbolcmepihlaaGreat
section
set_option linter.all false
open Go
section
theorem zK(l:bH)(h:l.length<=1000000):oo l=some (gd (λa b=>decide (a<b)) l):=by
 unfold oo
 refine(qB (λa b:Int=>decide (a<b)) (some false) (λi c d k j m bf f e=>by
  simp only[nA f e (by omega),aU];by_cases g:d<c
  .grind
  .have:c<=d:=by omega
   simp[g,this]) _).trans ?_
 grind
def kO(t:aK)(root:Int)(rs:bH):Int:=bif !decide (fH t=0)then 1 else bif !gd (λa b:Int=>decide (a<b)) rs then 25 else bif (root::rs).any (λc=>!eX t c)then 4 else 0
theorem kX(t:aK)(root:Int)(rs:bH)(g:rs.length<=100000):ni t root rs=some (kO t root rs):=by
 unfold ni kO;rw[ti,aU];by_cases d:fH t=0
 .have e:=iL.1 d;have h:=e.jr;rw[decide_eq_true d,zK _ (by omega),aU];simp only[Bool.not_true,cond_false];cases gd (λa b:Int=>decide (a<b)) rs with
  |false=>rfl
  |true=>
   simp only[Bool.not_true,cond_false];rw[iB (by simp;omega),aU]
   refine(hH (λc=>!eX t c) (some 4) (λi f bf s=>by
    rw[y4 t f (by omega),aU,decide_eq_true d,Bool.true_and]) _ _ _).trans ?_
   show(bif (root::rs).any (λc=>!eX t c)then some 4 else some 0)=_;cases(root::rs).any (λc=>!eX t c)<;>rfl
 .grind
variable {root:Int}{rs:bH}{t:aK}
def lP(f:cQ t)(h:root∈ids t)(j:rs.Pairwise (·<·))(d:∀x∈rs,x∈ids t):kO t root rs=0:=by
 unfold kO;have g:gd (λa b:Int=>decide (a<b)) rs=true:=oG (j.imp λi=>by simpa using i)
 have e:(root::rs).any (λk=>!eX t k)=false:=hS.2 λx c=>by
  rcases List.mem_cons.1 c with rfl|c
  .rw[iZ.1 h];rfl
  .rw[iZ.1 (d x c)];rfl
 rw[g,e,decide_eq_true (iL.2 f)];rfl
theorem Mz:kO t root rs=0↔cQ t/\root∈ids t/\rs.Pairwise (·<·)/\∀x∈rs,x∈ids t:=by
 constructor
 .intro c;unfold kO at c;by_cases e:fH t=0
  .rw[decide_eq_true e]at c;simp only[Bool.not_true,cond_false]at c;cases d:gd (λa b:Int=>decide (a<b)) rs with
   |false=>rw[d]at c;cases c
   |true=>
    rw[d]at c;simp only[Bool.not_true,cond_false]at c;cases f:(root::rs).any (λj=>!eX t j)with
    |true=>rw[f]at c;cases c
    |false=>
     have h:=hS.1 f
     have i:∀x∈root::rs,x∈ids t:=λx g=>by
      have:=h x g;rw[iZ];simpa using this
     exact⟨iL.1 e,i root (by simp),(qm (λa b k e d=>by simp at *;omega) d).imp (λc=>by simpa using c),λx g=>i x (by simp[g])⟩
  .grind
 .rintro⟨e,d,f,h⟩;exact lP e d f h
def iT(l:bU):kZ:=[bm.mk (aQ.mk l.A l.B) l.eE,bm.mk (aQ.mk l.B l.A) l.eP]
def e6(g:aK):kZ:=g.Links.flatMap iT
def El{α a β:Type}{B:Int->α->(List a->Option β)->List a->Option β}{K:List a->Option β}(f:α->List a)(b:∀j x bf s,B j x bf s=aj (dP s (f x)) λl=>bf l)(k:Nat)(c:∀x,(f x).length<=k):∀(l:List α) (j:Nat) (s:List a),s.length+k*l.length<=1000000->bZ l j B K s=K (s++l.flatMap f)
 |[],j,s,_=>by simp[bZ]
 |x::r,j,s,h=>by
  have:=c x;simp only[List.length_cons,Nat.mul_add,Nat.mul_one]at h;rw[bZ,b,iB (by omega),aU,El f b k c r (j+1) _ (by simp;omega)];simp
variable {g:aK}
def oU{a:bm}:a∈e6 g↔∃l∈g.Links,a=bm.mk (aQ.mk l.A l.B) l.eE\/a=bm.mk (aQ.mk l.B l.A) l.eP:=by
 simp[e6,iT]
theorem FG{a b:aQ}(d:a≠b):c9 [λx:aQ=>x.aO,λx:aQ=>x.aJ] a b<0\/c9 [λx:aQ=>x.aO,λx:aQ=>x.aJ] b a<0:=by
 rw[iX,iX,iX,iX];have e:a.aO≠b.aO\/a.aJ≠b.aJ:=by
  apply Classical.byContradiction;intro c;have f:a.aO=b.aO:=Classical.byContradiction λx=>c (.inl x);have g:a.aJ=b.aJ:=Classical.byContradiction λx=>c (.inr x);apply d;cases a;cases b
  grind
 omega
theorem y8(c:cQ g):(e6 g).Pairwise λa b=>a.Hop≠b.Hop:=by
 unfold e6;rw[List.pairwise_flatMap];refine⟨λk i=>?_,c.rS.imp_of_mem λ{a b} j e h=>?_⟩
 .have:=c.lt k i;simp only[iT,List.pairwise_cons,List.mem_cons,List.not_mem_nil,or_false,forall_eq,List.Pairwise.nil,and_true,false_imp_iff,implies_true]
  grind
 .have m:=c.lt a j;have l:=c.lt b e;simp only[hc,Bool.or_eq_true,Bool.and_eq_true,decide_eq_true_eq]at h;intro n d o f;simp only[iT,List.mem_cons,List.not_mem_nil,or_false]at d f
  grind
def Lf{l:bU}(a:jF l=false):(1<=l.eE/\l.eE<=1000)/\1<=l.eP/\l.eP<=1000:=by
 simp only[jF,o6,Bool.or_eq_false_iff,Bool.not_eq_false',Bool.and_eq_true,decide_eq_true_eq]at a;omega
def Em(g:aK):(e6 g).length=2*g.Links.length:=by
 unfold e6;induction g.Links with
 |nil=>rfl
 |cons a r b=>rw[List.flatMap_cons,List.length_append,b];simp[iT];omega
theorem FH{α j:Type}{f:α->j}:∀{l:List α},(l.Pairwise λa b=>f a≠f b)->∀a∈l,∀b∈l,f a=f b->a=b
 |[],_,a,d,_,_,_=>by cases d
 |x::r,h,a,d,b,i,e=>by
  rw[List.pairwise_cons]at h;rcases List.mem_cons.1 d with g|g<;>rcases List.mem_cons.1 i with c|c
  .rw[g,c]
  .grind
  .grind
  .exact FH h.2 a g b c e
theorem oZ(b:cQ g):lN (e6 g):=by
 refine⟨λa d=>?_,λa d=>?_,FH (y8 b),?_⟩
 .obtain⟨e,c,l⟩:=oU.1 d;have:=Lf (b.A8 e c)
  grind
 .obtain⟨e,c,l⟩:=oU.1 d;have f:=b.ends e c;have i:=tE.1 f.1;have k:=tE.1 f.2;obtain⟨m,h,q⟩:=i;obtain⟨n,j,r⟩:=k;have o:=b.ng m h;have p:=b.ng n j
  grind
 .have:=b.nl;rw[Em];omega
def Ag(d:cQ g):∃m,oM g=some m/\m.Perm (e6 g):=by
 have k:=d.nl;have j:=Em g;obtain⟨m,h,e,i⟩:=B2 (ks:=[λc:bm=>c.Hop.aO,λc:bm=>c.Hop.aJ]) (l:=e6 g) ((y8 d).imp λ{a b} f=>FG f) (by omega);refine⟨m,?_,e⟩;unfold oM;refine(El iT (λn c bf o=>rfl) 2 (λc=>Nat.le_refl _) _ _ _ (by simp;omega)).trans ?_;rw[List.nil_append];show aj (gA _ (e6 g)) _=_;rw[h];rfl
variable {a b:kZ}
def y9(d:a.Perm b)(f:lN b):lN a:=⟨λe c=>f.cost e (d.mem_iff.1 c),λe c=>f.to e (d.mem_iff.1 c),λe c h g=>f.hop e (d.mem_iff.1 c) h (d.mem_iff.1 g),by rw[d.length_eq];exact f.len⟩
variable {T:Int->Prop}
def iq.same{A:Type}[DecidableEq A]{N:mQ A}{L L':List A}(Y:∀a,a∈L↔a∈L'){v:Int}{H:List A}(h:iq N L T v H):iq N L' T v H:=
 ⟨λa u=>(Y a).1 (h.sub a u),λa u=>h.pos a ((Y a).2 u),h.lZ,λK D=>h.min K λa u=>(Y a).2 (D a u)⟩
theorem OC{A:Type}[DecidableEq A]{N:mQ A}{L:List A}{v:Int}(f:∀a∈L,0<N.cost a)(k:∀t,T t->dk N L v t):∃H,iq N L T v H:=by
 have:∀(d:Nat) (b:List A),(∀a∈b,a∈L)->(∀t,T t->dk N b v t)->dU N b<=d->∃H,iq N L T v H:=by
  intro d;induction d with
  |zero=>
   intro b h e j;refine⟨b,h,f,e,λc i _=>?_⟩;have:0<=dU N c:=xg λa g=>by have:=f a (i a g);omega
   simp only[Int.ofNat_zero]at j;omega
  |succ d m=>
   intro b h e j;by_cases l:∃c,(∀a∈c,a∈L)/\(∀t,T t->dk N c v t)/\dU N c<dU N b
   .grind
   .refine⟨b,h,f,e,λc i n=>?_⟩
    grind
 exact this (dU N L).toNat L (λa g=>g) k (by omega)
def yg(g:aK)(root:Int)(ts:bH)(x:b0×Int×Int):Prop:=(x.2.2=0/\x.1.cH=root/\pR (e6 g) root ts x.1.Links x.2.1)\/(x=(b0.mk 0 [],0,9)/\¬∀t,t∈ts->dk cR (e6 g) root t)
variable {ts:bH}
def Ka(j:a.Perm b){d:lR}{c:Int}(g:pR a root ts d c):pR b root ts d c:=by
 obtain⟨⟨i,k,e,h⟩,f⟩:=g;exact⟨⟨i,k.same λa=>j.mem_iff,e,h⟩,f⟩
variable {av:kZ}
def Lg{b:kZ}(c:lN av)(e:∀a∈b,a∈av):(b.length:Int)<=dU cR b:=(np λa d=>c.cost a (e a d)).1
def MA(b:lN av)(f:∀t,t∈ts->dk cR av root t):∃i c,pR av root ts i c:=by
 obtain⟨j,d⟩:=OC (N:=cR) (L:=av) (T:=λt=>t∈ts) (λa e=>by have:=(b.cost a e).1;show 0<a.b6;omega) f;have o:=Lg b d.sub;have l:=d.min av (λa e=>e) f;have n:=(np b.cost).2;have m:=b.len;obtain⟨k,_,g,h⟩:=yw b d (by omega);exact⟨k,_,⟨j,d,rfl,g⟩,h⟩
def Cz{β:Type}{K:(b0×Int×Int)->Option β}{r:β}(e:cQ g)(s:root∈ids g)(u:ts.Pairwise (·<·))(n:∀x∈ts,x∈ids g)(q:ts.length<=6)(i:∀x,yg g root ts x->K x=some r):lC g root ts K=some r:=by
 obtain⟨w,v,f⟩:=Ag e;have j:=y9 f (oZ e);unfold lC;rw[kX _ _ _ (by omega),aU,lP e s u n,decide_eq_true rfl,decide_eq_false (by omega),v,aU];simp only[Bool.not_true,cond_false];unfold wH;rw[if_pos ⟨j,q⟩];refine Ln ?_ ?_
 .by_cases d:∀t,t∈ts->dk cR w root t
  .obtain⟨k,l,b⟩:=MA j d;exact⟨(k,l,true),.inl ⟨rfl,b⟩⟩
  .exact⟨([],0,false),.inr ⟨rfl,d⟩⟩
 .rintro⟨k,l,y⟩ c;rcases c with⟨c,b⟩|⟨c,d⟩
  .simp only at c b;subst c;exact i _ (.inl ⟨rfl,rfl,Ka f b⟩)
  .injection c with h b
   injection b with b p
   subst h;subst b;subst p
   exact i _ (.inr ⟨rfl,λm=>d λt o=>(m t o).mono λa h=>f.mem_iff.2 h⟩)
end
section
set_option maxRecDepth 100000
def q9:aK:=aK.mk [ck.mk 1 true,ck.mk 2 true,ck.mk 3 true,ck.mk 4 true] [bU.mk 1 2 2 2 0,bU.mk 1 3 3 3 0,bU.mk 1 4 3 3 0,bU.mk 2 3 2 2 0,bU.mk 2 4 2 2 0]
def MB:sX=some q9:=by kernel_rfl
def MC:cQ q9:=iL.1 (by kernel_rfl)
def Jq:lD q9 1 [3,4] [bI.mk [2,3,4] 1,bI.mk [3] 2,bI.mk [4] 2]=some (5,0):=by kernel_rfl
def mC:kZ:=[⟨⟨1,2⟩,2⟩,⟨⟨2,1⟩,2⟩,⟨⟨1,3⟩,3⟩,⟨⟨3,1⟩,3⟩,⟨⟨1,4⟩,3⟩,⟨⟨4,1⟩,3⟩,⟨⟨2,3⟩,2⟩,⟨⟨3,2⟩,2⟩,⟨⟨2,4⟩,2⟩,⟨⟨4,2⟩,2⟩]
def Dw:e6 q9=mC:=rfl
def OD:∀a∈mC,a.Hop.aJ=2->2<=a.b6:=by decide
def OE:∀a∈mC,a.Hop.aJ=3->(a.Hop.aO=1/\a.b6=3)\/(a.Hop.aO=2/\a.b6=2):=by decide
def FI:∀a∈mC,a.Hop.aJ=4->(a.Hop.aO=1/\a.b6=3)\/(a.Hop.aO=2/\a.b6=2):=by decide
def En{H:kZ}(c:bm.mk ⟨1,3⟩ 3∈H)(b:bm.mk ⟨1,4⟩ 3∈H):∀t,t∈([3,4]:bH)->dk cR H 1 t:=by
 intro t a;simp only[List.mem_cons,List.not_mem_nil,or_false]at a;rcases a with rfl|rfl
 .exact dk.step (N:=cR) (bm.mk ⟨1,3⟩ 3) c (.refl _)
 .exact dk.step (N:=cR) (bm.mk ⟨1,4⟩ 3) b (.refl _)
def Eo{L H:kZ}(g:∀a∈L,0<a.b6)(i:∀a∈H,a∈L){a b:bm}(e:a∈H)(f:b∈H)(h:b≠a):a.b6+b.b6<=dU cR H/\2<=H.length:=by
 have q:=qq (N:=cR) e;have d:b∈H.erase a:=(List.mem_erase_of_ne h).2 f;have k:=qq (N:=cR) d
 have n:0<=dU cR ((H.erase a).erase b):=xg λc j=>by
  have:=g c (i c (List.mem_of_mem_erase (List.mem_of_mem_erase j)));show 0<=c.b6;omega
 have l:=List.length_erase_of_mem e;have m:=List.length_pos_of_mem d;refine⟨?_,by omega⟩;have o:cR.cost a=a.b6:=rfl;have p:cR.cost b=b.b6:=rfl;omega
def Jr{L H:kZ}(f:∀a∈L,0<a.b6)(h:∀a∈H,a∈L){a b c:bm}(l:a∈H)(e:b∈H)(i:c∈H)(g:b≠a)(k:c≠a)(j:c≠b):a.b6+b.b6+c.b6<=dU cR H:=by
 have p:=qq (N:=cR) l;have n:=(Eo (L:=L) (H:=H.erase a) f (λm d=>h m (List.mem_of_mem_erase d)) ((List.mem_erase_of_ne g).2 e) ((List.mem_erase_of_ne k).2 i) j).1;have o:cR.cost a=a.b6:=rfl;omega
def Js{H:kZ}(c:∀a∈H,a∈mC)(p:∀t,t∈([3,4]:bH)->dk cR H 1 t):6<=dU cR H/\2<=H.length:=by
 have n:∀a∈mC,0<a.b6:=by decide
 rcases yu (p 3 (by simp))with s|⟨a,j,i,A⟩
 .omega
 rcases yu (p 4 (by simp))with s|⟨b,h,d,y⟩
 .omega
 have i:a.Hop.aJ=3:=i;have d:b.Hop.aJ=4:=d;have o:b≠a:=λf=>by rw[f]at d;omega
 have x:=Eo n c j h o;refine⟨?_,x.2⟩
 have v:∀{l:bm} {u:bm->Bool},l.Hop.aO=2->dk cR (H.filter u) 1 l.Hop.aO->2+a.b6+b.b6<=dU cR H:=λ{l u} w r=>by
  rw[w]at r;rcases yu r with s|⟨k,z,e,_⟩
  .omega
  have q:=(List.mem_filter.1 z).1;have e:k.Hop.aJ=2:=e;have:=OD k (c k q) e;have:=Jr n c j h q o (λf=>by rw[f]at e;omega) (λf=>by rw[f]at e;omega);omega
 rcases OE a (c a j) i with⟨_,m⟩|⟨m,D⟩
 .rcases FI b (c b h) d with⟨_,g⟩|⟨g,B⟩
  .omega
  .have:=v g y;omega
 .have C:=v m A;rcases FI b (c b h) d with⟨_,g⟩|⟨g,B⟩<;>omega
theorem EJ:qh=some true:=by
 unfold qh;rw[MB,aU];refine Cz MC (by decide) (by simp) (by decide) (by simp) λf b=>?_;rw[aU,Jq,aU];have b:yg q9 1 [3,4] f:=b;rcases b with⟨o,_,⟨n,a,g,e⟩,_⟩|⟨_,d⟩
 .rw[Dw]at a;obtain⟨i,h⟩:=Js a.sub a.lZ;have k:=a.min [⟨⟨1,3⟩,3⟩,⟨⟨1,4⟩,3⟩] (by intro l c;simp only[List.mem_cons,List.not_mem_nil,or_false]at c;rcases c with rfl|rfl<;>simp[mC]) (En (by simp) (by simp));have m:dU cR [⟨⟨1,3⟩,3⟩,⟨⟨1,4⟩,3⟩]=6:=rfl;have j:=e.length_eq
  grind
 .rw[Dw]at d;exact absurd (En (by simp[mC]) (by simp[mC])) d
end
section
def zc{n:Int}(a : -1000000<=n)(b:n<=4000000000):an n=n:=by unfold an;rw[IntKind.wrap_i64];omega
def hP(t:aK)(x:Int):Nat:=(ids t).idxOf x
variable {t:aK}{x:Int}
def uL(a:x∈ids t):hP t x<t.aP.length:=by
 have:=List.idxOf_lt_length_of_mem a;simpa [ids,hP]using this
theorem L3{y:Int}(a:x∈ids t)(b:y∈ids t)(c:hP t x=hP t y):x=y:=by
 have e:=List.getElem_idxOf (List.idxOf_lt_length_of_mem a);have d:=List.getElem_idxOf (List.idxOf_lt_length_of_mem b);unfold hP at c
 grind
theorem ze{β:Type}(x:Int)(g:Int->Option β)(a:Option β):∀(l:oO) (j:Nat),bZ l j (λ(c:Int) (e1:ck) (b:Unit->Option β) (_:Unit)=>bif decide (e1.b7=x)then g c else b ()) (λ_=>a) () =
  if x∈l.map (·.b7)then g ((j+(l.map (·.b7)).idxOf x:Nat):Int)else a
 |[],j=>by simp[bZ]
 |r::l,j=>by
  show(bif decide (r.b7=x)then g (j:Int)else bZ l (j+1) (λ(c:Int) (e1:ck) (b:Unit->Option β) (_:Unit)=>bif decide (e1.b7=x)then g c else b ()) (λ_=>a) ())=_;by_cases d:r.b7=x
  .grind
  .have:=ze x g a l (j+1)
   grind
def CZ(b:x∈ids t):sG t x=some (hP t x:Int):=by
 have:=ze x (λc=>some c) (some (0:Int)) t.aP 0;have a:x∈t.aP.map (·.b7):=b;rw[if_pos a,Nat.zero_add]at this;exact this
def Ob(t:aK)(d:bH)(x:Int):me t d x=if x∈ids t then bq d (hP t x:Int)else some 1073741824:=by
 have:=ze x (λc=>aj (bq d c) λa=>some a) (some 1073741824) t.aP 0;rw[Nat.zero_add]at this;have a:∀b:fe,(aj b λa=>some a)=b:=λb=>by cases b<;>rfl
 unfold me;refine Eq.trans this ?_;rw[a];rfl
def ds(t:aK)(d:bH)(x:Int):Int:=d.getD (hP t x) 1073741824
theorem zf{d:bH}(b:d.length=t.aP.length)(a:x∈ids t):bq d (hP t x:Int)=some (ds t d x):=by
 have c:=uL a;rw[<-b]at c;unfold bq ds
 grind
def L4{d:bH}(g:d.length=t.aP.length){y v:Int}(b:x∈ids t)(e:y∈ids t):ds t (d.set (hP t x) v) y=if y=x then v else ds t d y:=by
 have c:=uL b;rw[<-g]at c;unfold ds;rw[List.getD_eq_getElem?_getD,List.getD_eq_getElem?_getD,List.getElem?_set];by_cases a:y=x
 .subst a;simp[c]
 .rw[if_neg (λf=>a (L3 e b f.symm)),if_neg a]
structure oa(t:aK)(to:Int)(d:List Int):Prop where
 len:d.length=t.aP.length
 le:∀x∈ids t,ds t d x<=1073741824
 qW:∀x∈ids t,ds t d x<1073741824->ez (eM t) x to (ds t d x)
 z:ds t d to<=0
def lQ(t:aK)(d:bH)(x y w:Int):bH:=if ds t d y<1073741824 then d.set (hP t x) (if w+ds t d y<ds t d x then w+ds t d y else ds t d x)else d
variable {to w:Int}
theorem C0(h:cQ t){d:bH}(a:oa t to d){y:Int}(e:x∈ids t)(f:y∈ids t)(j:1<=w/\w<=1000){β:Type}(J:bH->Option β):
  (aj (bq d (hP t y:Int)) λ(b:Int)=>bif decide (b<(1073741824:Int))then aj (bq d (hP t x:Int)) λ(g:Int)=>aj (e3 d (hP t x:Int) (if(an (w+b))<g then an (w+b)else g)) λ(i:bH)=>J i else J d)=J (lQ t d x y w):=by
 rw[zf a.len f,aU];unfold lQ;by_cases c:ds t d y<1073741824
 .rw[if_pos c,show decide (ds t d y<1073741824)=true from decide_eq_true c,cond_true,zf a.len e,aU];have m:=(a.qW y f c).jo (jl h);rw[zc (by omega) (by omega)];have l:=uL e;have k:=a.len;unfold e3;rw[if_pos (by omega),aU];simp
 .grind
theorem Et(j:cQ t)(ai:to∈ids t){d:bH}(b:oa t to d){y:Int}(f:eM t x y=some w):
  oa t to (lQ t d x y w)/\(∀z∈ids t,ds t (lQ t d x y w) z<=ds t d z)/\(ds t d y<1073741824->ds t (lQ t d x y w) x<=w+ds t d y):=by
 obtain⟨i,k⟩:=kE j f;unfold lQ;by_cases h:ds t d y<1073741824
 .rw[if_pos h];have g:∀z∈ids t,ds t (d.set (hP t x) (if w+ds t d y<ds t d x then w+ds t d y else ds t d x)) z=if z=x then(if w+ds t d y<ds t d x then w+ds t d y else ds t d x)else ds t d z:=λz a=>L4 b.len i a
  have bA:∀z∈ids t,ds t (d.set (hP t x) (if w+ds t d y<ds t d x then w+ds t d y else ds t d x)) z<=ds t d z:=λz a=>by
   rw[g z a];split
   .grind
   .omega
  refine⟨⟨by simp[b.len],λz a=>Int.le_trans (bA z a) (b.le z a),λz a c=>?_,Int.le_trans (bA to ai) b.z⟩,bA,λ_=>?_⟩
  .rw[g z a]at c ⊢;split
   .rename_i e;subst e
    rw[if_pos rfl]at c;split
    .exact(ez.one f).trans (b.qW y k h)
    .rename_i l;rw[if_neg l]at c;exact b.qW z a c
   .rename_i e;rw[if_neg e]at c;exact b.qW z a c
  .grind
 .grind
open Classical in
noncomputable def jH(t:aK)(to:Int)(d:bH)(x:Int):Bool:=decide (∃k,dst (eM t) x to=some k/\k<ds t d x)
noncomputable def kP(t:aK)(to:Int)(d:bH):Nat:=((ids t).filter (jH t to d)).length
variable {α:Type}
theorem BB{p q:α->Bool}{l:List α}(e:∀x∈l,q x=true->p x=true):(l.filter q).length<=(l.filter p).length/\∀x∈l,p x=true->q x=false->(l.filter q).length<(l.filter p).length:=by
 induction l with
 |nil=>simp
 |cons y l f=>
  obtain⟨d,i⟩:=f λx a=>e x (by simp[a]);have g:=e y (by simp);cases b:q y with
  |true=>
   rw[List.filter_cons_of_pos b,List.filter_cons_of_pos (g b)];refine⟨by simpa using d,λx a c h=>?_⟩;rcases List.mem_cons.1 a with rfl|a
   .grind
   .grind
  |false=>
   rw[List.filter_cons_of_neg (by simp[b])];cases c:p y with
   |true=>
    rw[List.filter_cons_of_pos c];simp only[List.length_cons];exact⟨by omega,λx a _ _=>by omega⟩
   |false=>
    rw[List.filter_cons_of_neg (by simp[c])];refine⟨d,λx a j h=>?_⟩;rcases List.mem_cons.1 a with rfl|a
    .grind
    .grind
def tN(b:cQ t){l:bU}(a:l∈t.Links):eM t l.A l.B=some l.eE/\eM t l.B l.A=some l.eP:=by
 have d:=b.lt l a;have c:l.A≠l.B:=by omega
 constructor
 .refine jj.2 ⟨jk.2 ⟨l,a,.inl ⟨rfl,rfl⟩⟩,?_⟩;rw[ji b a (by simp[fZ])];simp[hZ]
 .refine jj.2 ⟨jk.2 ⟨l,a,.inr ⟨rfl,rfl⟩⟩,?_⟩;rw[ji b a (by simp[fZ])];simp[hZ,c]
variable {g:aK}{k:Int}
theorem o2(h:cQ g){y:Int}:eM g x y=some k↔bm.mk (aQ.mk x y) k∈e6 g:=by
 rw[oU];constructor
 .intro a;obtain⟨b,c⟩:=jj.1 a;obtain⟨i,e,d⟩:=jk.1 b;obtain⟨l,j⟩:=tN h e
  grind
 .rintro⟨i,e,a|a⟩
  .injection a with b c
   injection b with d f
   subst d;subst f;subst c
   exact(tN h e).1
  .injection a with b c
   injection b with d f
   subst d;subst f;subst c
   exact(tN h e).2
def Oc(c:cQ g){y:Int}(e:dk cR (e6 g) x y):∃m,ez (eM g) x y m:=by
 induction e with
 |refl v=>exact⟨0,.nil⟩
 |step a d _ b=>
  obtain⟨m,f⟩:=b;have:eM g a.Hop.aO a.Hop.aJ=some a.b6:=(o2 c).2 d;exact⟨_,(ez.one this).trans f⟩
def Fm(d:cQ g){y m:Int}(e:ez (eM g) x y m):dk cR (e6 g) x y:=by
 induction e with
 |nil=>exact .refl _
 |@snoc x b m k _ hk c=>exact c.trans (dk.one (N:=cR) (a:=bm.mk (aQ.mk x b) k) ((o2 d).1 hk))
def JK(j:cQ g):∀(n:Nat) (c:bH) (H:kZ) (x t:Int),c.length=n->(∀a∈H,a∈e6 g)->(∀a∈H,a.Hop.aO∈c)->dk cR H x t->∃m,ez (eM g) x t m/\m<=1000*(n:Int):=by
 intro n;induction n with
 |zero=>
  intro c H x t l h e i;cases i with
  |refl _=>exact⟨0,.nil,by omega⟩
  |step a d _=>
   have:=e a d;rw[List.eq_nil_of_length_eq_zero l]at this;cases this
 |succ n s=>
  intro c H x t l h e i;by_cases k:x=t
  .subst k;exact⟨0,.nil,by omega⟩
  .obtain⟨b,p,f,w⟩:=BX i k;have f:b.Hop.aO=x:=f;have o:=e b p;rw[f]at o
   obtain⟨m,y,z⟩:=s (c.erase x) _ b.Hop.aJ t (by rw[List.length_erase_of_mem o];omega) (λa d=>h a (List.mem_filter.1 d).1) (λa d=>by
    obtain⟨u,v⟩:=List.mem_filter.1 d;have r:¬cR.src a=x:=by simpa using v
    exact(List.mem_erase_of_ne r).2 (e a u)) w
   have q:eM g x b.Hop.aJ=some b.b6:=by rw[<-f];exact(o2 j).2 (h b p)
   have:=(nS j q).2;exact⟨_,(ez.one q).trans y,by omega⟩
variable {a b:Int}
def yq(c:cQ t)(d:a∈ids t)(e:dst (eM t) a b=some k):0<=k/\k<=24000:=by
 obtain⟨l,f,g⟩:=JK c _ (ids t) (e6 t) a b rfl (λa d=>d) (λa d=>(kE c ((o2 c).2 d)).1) (Fm c (g1.1 e).1);have j:=(g1.1 e).2 _ f;have h:=c.jr;have i:(ids t).length=t.aP.length:=by simp[ids]
 exact⟨xm (jl c) e,by omega⟩
theorem Ju(c:cQ t){d e:bH}(B:oa t to d)(bA:∀z∈ids t,ds t e z<=ds t d z)
  (p:∀l∈t.Links,(ds t d l.B<1073741824->ds t e l.A<=l.eE+ds t d l.B)/\(ds t d l.A<1073741824->ds t e l.B<=l.eP+ds t d l.A)):kP t to e<=kP t to d/\(kP t to d≠0->kP t to e<kP t to d):=by
 have K:∀x∈ids t,jH t to e x=true->jH t to d x=true:=λx j q=>by
  simp only[jH,decide_eq_true_eq]at q ⊢;obtain⟨k,s,v⟩:=q;exact⟨k,s,by have:=bA x j;omega⟩
 obtain⟨f1,f2⟩:=BB K;refine⟨f1,λC=>?_⟩;have O:∀(i:Nat) (x k:Int),k.toNat=i->x∈ids t->dst (eM t) x to=some k->k<ds t d x->∃x k,x∈ids t/\dst (eM t) x to=some k/\k<ds t d x/\∀b a,b∈ids t->dst (eM t) b to=some a->a<k->ds t d b<=a:=by
  intro i;induction i using Nat.strongRecOn with
  |_ i T=>
   intro x k aa j s v;by_cases Y:∀b a,b∈ids t->dst (eM t) b to=some a->a<k->ds t d b<=a
   .grind
   .have:∃b a,b∈ids t/\dst (eM t) b to=some a/\a<k/\a<ds t d b:=by grind
    obtain⟨b,a,V,A,R,S⟩:=this;have:=xm (jl c) A
    grind
 have:∃x,x∈(ids t).filter (jH t to d):=by
  cases y:(ids t).filter (jH t to d)with
  |nil=>exact absurd (by unfold kP;rw[y];rfl) C
  |cons x r=>exact⟨x,by simp⟩
 obtain⟨F,E⟩:=this;obtain⟨Q,u⟩:=List.mem_filter.1 E;simp only[jH,decide_eq_true_eq]at u;obtain⟨g5,D,I⟩:=u;obtain⟨x,k,J,h,L,M⟩:=O _ F g5 rfl Q D I;refine f2 x J (by simp only[jH,decide_eq_true_eq];exact⟨k,h,L⟩) ?_;simp only[jH,decide_eq_false_iff_not];rintro⟨X,n,ab⟩;rw[h]at n;cases n
 have H:x≠to:=λN=>by
  subst N;have:=xm (jl c) h;have:=B.z;omega
 obtain⟨b,w,a,f,o,af⟩:=Dx h H;obtain⟨_,m⟩:=kE c f;have U:=nS c f;have ae:=M b a m o (by omega);have Z:=yq c m o;obtain⟨l,g,P⟩:=jk.1 (jj.1 f).1;have W:=c.lt l g;rcases P with⟨rfl,rfl⟩|⟨rfl,rfl⟩
 .have G:w=l.eE:=by
   rw[<-(jj.1 f).2,ji c g (by simp[fZ])];simp[hZ]
  have:=(p l g).1 (by omega);omega
 .have G:w=l.eP:=by
   have:l.A≠l.B:=by omega
   rw[<-(jj.1 f).2,ji c g (by simp[fZ])];simp[hZ,this]
  have:=(p l g).2 (by omega);omega
structure uq(t:aK)(to:Int)(d:List Int):Prop where
 len:d.length=t.aP.length
 val:∀x∈ids t,ds t d x=(dst (eM t) x to).getD 1073741824
theorem Fo(c:cQ t)(ai:to∈ids t):Ok (qp t to) (uq t to):=by
 have aX:t.aP.length<=24:=c.jr;unfold qp;refine Ok.dR (by simp;omega) ?_;refine au2 (λ(s:bH×Int)=>s.1.length=t.aP.length/\0<=s.2/\s.2<=(t.aP.length:Int)/\∀e:Nat,(e:Int)<s.2->s.1[e]?=((ids t)[e]?).map λv=>if v=to then 0 else 1073741824) (λ(s:bH×Int)=>((t.aP.length:Int)-s.2).toNat) (s:=(List.replicate ((t.aP.length:Int)).toNat (0:Int),(0:Int))) ⟨by simp,Int.le_refl _,by simp,λe U=>by simp at U;omega⟩ (by simp;omega) ?_;rintro⟨a,i⟩ bf ⟨L,l,aE,O⟩ q;simp only at L l aE O q ⊢;refine Ok.cs (λg=>?_) λg=>?_
 .have r:i<a.length:=of_decide_eq_true g;refine au0 (λd2=>d2.length=t.aP.length/\∀e:Nat,(e:Int)<i+1->d2[e]?=((ids t)[e]?).map λv=>if v=to then 0 else 1073741824) (λd2 N=>?_) λaM Z=>?_
  .rw[zc (by omega) (by omega)];exact q (d2,i+1) ⟨N.1,by omega,by omega,N.2⟩ (by simp only;omega)
  refine Ok.aj (hr l (by omega)) λ_ _=>Ok.aj (uI l r) λaV ch=>Ok.aj (hr l (by omega)) λn aD=>?_;have aY:(ids t)[i.toNat]?=some n.b7:=by simp[ids,aD.2]
  obtain⟨rfl,aU⟩:=ch;have aw:∀(S:Int) (b:bH),b=a.set i.toNat S->S=(if n.b7=to then 0 else 1073741824)->b.length=t.aP.length/\∀e:Nat,(e:Int)<i+1->b[e]?=((ids t)[e]?).map λv=>if v=to then 0 else 1073741824:=by grind
  refine Ok.cs (λB=>?_) λB=>?_
  .refine Ok.aj (hr l (by simpa using r)) λ_ _=>Ok.aj (uI l (by simpa using r)) λM ae=>Z M (aw 0 M (by rw[ae.1,List.set_set]) (by rw[if_pos (of_decide_eq_true B)]))
  .grind
 have r:i=(t.aP.length:Int):=by have:=of_decide_eq_false g;omega
 subst r
 have D:∀x∈ids t,ds t a x=if x=to then 0 else 1073741824:=λx d=>by
  have aR:=uL d;have:=O (hP t x) (by omega);rw[show(ids t)[hP t x]?=some x by
   unfold hP;rw[List.getElem?_eq_getElem (List.idxOf_lt_length_of_mem d)];exact congrArg some (List.getElem_idxOf _)]at this
  unfold ds;rw[List.getD_eq_getElem?_getD,this];rfl
 have ax:oa t to a:=⟨L,λx d=>by rw[D x d];split<;>omega,λx d h=>by
  rw[D x d]at h ⊢;split
  .rename_i n;subst n;exact .nil
  .rename_i n;rw[if_neg n]at h;omega,by rw[D to ai,if_pos rfl];exact Int.le_refl _⟩
 have a0:kP t to a<=t.aP.length:=by
  have:=List.length_filter_le (jH t to a) (ids t);simpa [kP,ids]using this
 refine au2 (λ(s:bH×Int)=>oa t to s.1/\0<=s.2/\s.2<=(t.aP.length:Int)/\(kP t to s.1:Int)+s.2<=(t.aP.length:Int)) (λ(s:bH×Int)=>((t.aP.length:Int)-s.2).toNat) (s:=(a,(0:Int))) ⟨ax,Int.le_refl _,by simp,by simp;omega⟩ (by simp;omega) ?_;rintro⟨a,F⟩ bf ⟨f,V,ab,af⟩ q;simp only at f V ab af q ⊢;refine Ok.cs (λg=>?_) λg=>.s ?_
 .have aA:F<(t.aP.length:Int):=by have:=of_decide_eq_true g;rw[f.len]at this;exact this
  refine au7 (λR m=>oa t to m/\(∀p∈ids t,ds t m p<=ds t a p)/\∀b∈R,(ds t a b.B<1073741824->ds t m b.A<=b.eE+ds t a b.B)/\(ds t a b.A<1073741824->ds t m b.B<=b.eP+ds t a b.A)) ?_ _ ⟨f,λ_ _=>Int.le_refl _,by simp⟩ ?_
  .rintro R b a1 d4 aS J ⟨de,aZ,ec⟩ ak;have ar:b∈t.Links:=by rw[J];simp
   obtain⟨C,G⟩:=tN c ar;obtain⟨j,y⟩:=kE c C;obtain⟨K,w,ao⟩:=Et c ai de C;obtain⟨aG,A,aI⟩:=Et c ai K G;have X:=C0 (β:=bH) c de j y (nS c C);have Y:=C0 (β:=bH) c K y j (nS c G)
   have az:=ak (lQ t (lQ t d4 b.A b.B b.eE) b.B b.A b.eP) ⟨aG,λp u=>Int.le_trans (A p u) (Int.le_trans (w p u) (aZ p u)),λQ o=>by
    rcases List.mem_append.1 o with o|o
    .obtain⟨ag,an⟩:=ec Q o;have aq:Q∈t.Links:=by rw[J];simp[o]
     obtain⟨H,I⟩:=kE c (tN c aq).1;exact⟨λh=>by have:=ag h;have:=A _ H;have:=w _ H;omega,λh=>by have:=an h;have:=A _ I;have:=w _ I;omega⟩
    .rw[List.mem_singleton.1 o];refine⟨λh=>?_,λh=>?_⟩
     .have aB:=aZ _ y;have aC:=ao (by omega);have aa:=A _ j;omega
     .have aB:=aZ _ j;have aC:=w _ j;have aa:=aI (by omega);omega⟩
   rw[CZ j,CZ y];refine Eq.mpr (congrArg (λaF=>Ok aF (uq t to)) ?_) az;refine(X _).trans ?_;exact Y _
  .rintro m ⟨de,aZ,ec⟩;rw[zc (by omega) (by omega)];obtain⟨aT,am⟩:=Ju c f aZ ec;refine q (m,F+1) ⟨de,by omega,by omega,?_⟩ (by simp only;omega);by_cases u:kP t to a=0
   .simp only;omega
   .have:=am u;simp only;omega
 .have aA:F=(t.aP.length:Int):=by have:=of_decide_eq_false g;rw[f.len]at this;omega
  have W:kP t to a=0:=by omega
  refine⟨f.len,λx d=>?_⟩;have P:jH t to a x=false:=by
   cases T:jH t to a x with
   |false=>rfl
   |true=>
    have:x∈(ids t).filter (jH t to a):=List.mem_filter.2 ⟨d,T⟩;have:=List.length_pos_of_mem this;unfold kP at W;omega
  simp only[jH,decide_eq_false_iff_not]at P;cases z:dst (eM t) x to with
  |some k=>
   have aW:=yq c d z;have g:ds t a x<=k:=by
    by_cases E:ds t a x<=k
    .exact E
    .exact absurd ⟨k,z,by omega⟩ P
   have B:=(g1.1 z).2 _ (f.qW x d (by omega));simp only[Option.getD_some];omega
  |none=>
   simp only[Option.getD_none];have g:=f.le x d;by_cases E:ds t a x<1073741824
   .exact absurd (f.qW x d E) ((yC (jl c)).1 z _)
   .omega
open Classical in
noncomputable def dy(t:aK)(a b:Int):fe:=if fH t=0/\a∈ids t/\b∈ids t then dst (eM t) a b else none
def nW(d:cQ t)(e:a∈ids t)(c:b∈ids t):dy t a b=dst (eM t) a b:=by
 unfold dy;rw[if_pos ⟨iL.2 d,e,c⟩]
def iC(c:dy t a b=some k):cQ t/\a∈ids t/\b∈ids t/\dst (eM t) a b=some k:=by
 unfold dy at c;split at c
 .rename_i d;exact⟨iL.1 d.1,d.2.1,d.2.2,c⟩
 .cases c
def nT(c:¬(fH t=0/\a∈ids t/\b∈ids t)):dy t a b=none:=by unfold dy;rw[if_neg c]
def nB(f:dy t a b=some k):0<=k/\k<=24000:=by
 obtain⟨c,e,g,d⟩:=iC f;exact yq c e d
def tO(b:cQ t)(c:a∈ids t):dy t a a=some 0:=by rw[nW b c c,Ep (jl b)]
def L5(c:cQ t)(e:a∈ids t)(d:b∉ids t):dst (eM t) a b=none:=
 (yC (jl c)).2 λg f=>d (f.ids c e)
noncomputable def jZ(t:aK)(a b:Int):Int×Bool:=((dy t a b).getD 0,(dy t a b).isSome)
def Ah(c:cQ t)(ai:to∈ids t){d:bH}(b:uq t to d)(x:Int):me t d x=some ((dy t x to).getD 1073741824):=by
 rw[Ob];by_cases a:x∈ids t
 .rw[if_pos a,zf b.len a,b.val x a,nW c a ai]
 .rw[if_neg a,nT λe=>a e.2.1];rfl
def uA{r:Int}:eX t r=decide (r∈ids t):=by
 by_cases a:r∈ids t
 .rw[decide_eq_true a,iZ.1 a]
 .rw[decide_eq_false a];cases b:eX t r with
  |false=>rfl
  |true=>exact absurd (iZ.2 b) a
def Eu(t:aK)(a b:Int)(k:Bool->Option α):(jn k λJ=>aj (jd t a) λ(d:Bool)=>bif !d then J true else aj (jd t b) λ(e:Bool)=>J (!e))=k (!decide (fH t=0/\a∈ids t/\b∈ids t)):=by
 simp only[jn];rw[qT,qT,aU,uA,uA];by_cases f:fH t=0<;>by_cases g:a∈ids t<;>by_cases c:b∈ids t<;>simp[f,g,c,aj]
def JL(t:aK)(a b:Int):sV t a b=some (jZ t a b):=by
 unfold sV;refine(Eu t a b _).trans ?_;by_cases c:fH t=0/\a∈ids t/\b∈ids t
 .have d:=iL.1 c.1;obtain⟨h,g,e⟩:=Fo d c.2.2;rw[decide_eq_true c];simp only[Bool.not_true,cond_false];rw[g,aU,Ah d c.2.2 e,aU];unfold jZ;cases f:dy t a b with
  |none=>rfl
  |some k=>
   have:=nB f;simp only[Option.getD_some,Option.isSome_some];rw[decide_eq_false (by omega)];rfl
 .rw[decide_eq_false c];unfold jZ;rw[nT c];rfl
end
section
def zg{f:Int->Int}:∀(b:bH) (i:Nat),i<b.length->∀x,((b.set i x).map f).sum=(b.map f).sum-f (b.getD i 0)+f x
 |[],_,h,_=>by simp at h
 |y::b,0,_,x=>by simp;omega
 |y::b,i+1,h,x=>by
  have:=zg (f:=f) b i (by simpa using h) x;simp only[List.set_cons_succ,List.map_cons,List.sum_cons,List.getD_cons_succ];omega
def zh{f:Int->Int}{m:Int}(a:∀x,0<=f x/\f x<=m):∀b:bH,0<=(b.map f).sum/\(b.map f).sum<=m*b.length
 |[]=>by simp
 |y::b=>by
  have d:=zh a b;have c:=a y;simp only[List.map_cons,List.sum_cons,List.length_cons,Int.natCast_add,Int.mul_add];omega
theorem mD{b:bH}{i:Nat}(hi:i<b.length)(x:Int)(v:Nat):(b.set i x).getD v 0=if v=i then x else b.getD v 0:=by grind
abbrev gU:Int:=1099511627776
def kQ(x:Int):Int:=if x<gU then 1 else 0
def mV(x:Int):Int:=if x<gU then(if x<0 then 0 else if x<4000000 then x else 4000000)else 5000000
def fin(b:bH):Int:=(b.map kQ).sum
def tP(b:bH):0<=fin b/\fin b<=b.length:=by
 have:=zh (f:=kQ) (m:=1) (λa=>by unfold kQ;split<;>omega) b;unfold fin;omega
def L6{b:bH}{i:Nat}(hi:i<b.length)(x:Int):fin (b.set i x)=fin b-kQ (b.getD i 0)+kQ x:=zg b i hi x
def fF(cs:cn)(au v:Nat):Int:=(cs.getD au []).getD v 0
structure pQ(V:List Int)(L:List bm)(cs:List (List Int)):Prop where
 nd:V.Nodup
 le:V.length<=24
 len:cs.length=V.length
 row:∀au,au<V.length->(cs.getD au []).length=V.length
 rT:∀a∈L,a.Hop.aO∈V/\a.Hop.aJ∈V/\fF cs (V.idxOf a.Hop.aO) (V.idxOf a.Hop.aJ)=a.b6/\1<=a.b6/\a.b6<=1000
 hop:∀au v,au<V.length->v<V.length->0<fF cs au v->bm.mk (aQ.mk (V.getD au 0) (V.getD v 0)) (fF cs au v)∈L
theorem nu{V:bH}{x:Int}(a:x∈V):V.getD (V.idxOf x) 0=x:=by grind
def pQ.A0{V:bH}{L:kZ}{cs:cn}(h:pQ V L cs){au v:Nat}(F:au<V.length)(u:v<V.length)(D:0<fF cs au v):fF cs au v<=1000:=(h.rT _ (h.hop au v F u D)).2.2.2.2
section tab
variable {V:bH}{L:kZ}{cs:cn}{ts:bH}
structure jI(V:List Int)(L:List bm)(ts:List Int)(S:Nat)(b:List Int):Prop where
 len:b.length=V.length
 bd:∀v,v<V.length->0<=b.getD v 0/\b.getD v 0<=gU
 ok:∀v,v<V.length->b.getD v 0<gU->b.getD v 0<=48000*S-48000+1000*fin b/\∃H,g0 cR L ts.length (λi=>ts.getD i 0) S (V.getD v 0) H/\dU cR H=b.getD v 0
structure mM(V:List Int)(L:List bm)(cs:List (List Int))(ts:List Int)(rows:List (List Int))(S:Nat)(b:List Int):Prop where
 s:jI V L ts S b
 one:∀i,i<ts.length->S=2 ^ i->b.getD (V.idxOf (ts.getD i 0)) 0<=0
 hop:∀au v,au<V.length->v<V.length->0<fF cs au v->b.getD au 0<=fF cs au v+b.getD v 0
 part:∀P R,0<P->0<R->P &&& R=0->P ||| R=S->∀v,v<V.length->b.getD v 0<=(rows.getD P []).getD v 0+(rows.getD R []).getD v 0
variable {S au:Nat}
theorem jI.put{b:bH}(h:jI V L ts S b)(X:au<V.length){c:Int}(ao:0<=c)(af:c<gU)(F:c<=48000*S-48000+1000*fin b\/c<=48000*S-48000+1000*fin b+1000/\gU<=b.getD au 0\/∃v,v<V.length/\v≠au/\b.getD v 0<gU/\c<=b.getD v 0+1000/\c<=b.getD au 0)
  (ae:∃H,g0 cR L ts.length (λi=>ts.getD i 0) S (V.getD au 0) H/\dU cR H=c):jI V L ts S (b.set au c):=by
 have O:au<b.length:=by rw[h.len];exact X
 have an:=h.bd au X;have ai:=L6 O c;have ag:kQ c=1:=by unfold kQ;rw[if_pos af]
 have aq:fin b<=fin (b.set au c):=by
  rw[ai,ag];unfold kQ;split<;>omega
 refine⟨by rw[List.length_set];exact h.len,λv u=>?_,λv u Q=>?_⟩
 .rw[mD O];split
  .omega
  .exact h.bd v u
 .rw[mD O]at Q ⊢;by_cases e:v=au
  .subst e;rw[if_pos rfl];refine⟨?_,ae⟩;rcases F with F|⟨F,D⟩|⟨w,aa,am,ab,ar,aw⟩
   .omega
   .have:kQ (b.getD v 0)=0:=by unfold kQ;rw[if_neg (by omega)]
    omega
   .by_cases D:b.getD v 0<gU
    .have:=(h.ok v u D).1;omega
    .have:kQ (b.getD v 0)=0:=by unfold kQ;rw[if_neg D]
     have:=(h.ok w aa ab).1;omega
  .rw[if_neg e]at Q ⊢;obtain⟨ax,ak⟩:=h.ok v u Q
   grind
def mM.le{rows:cn}{b:bH}(Q:V.length<=24)(h:mM V L cs ts rows S b){v:Nat}(D:v<V.length)(u:b.getD v 0<gU):b.getD v 0<=48000*S-24000:=by
 have X:=(h.s.ok v D u).1;have F:=(tP b).2;have O:=h.s.len;omega
def jI.step{b:bH}(O:pQ V L cs)(h:jI V L ts S b){v:Nat}(D:au<V.length)(u:v<V.length)(Q:0<fF cs au v)(ag:fF cs au v+b.getD v 0<b.getD au 0):jI V L ts S (b.set au (fF cs au v+b.getD v 0)):=by
 have ai:=O.A0 D u Q;have ab:=h.bd v u;have af:=h.bd au D;have F:b.getD v 0<gU:=by omega
 obtain⟨ae,H,X,aa⟩:=h.ok v u F;refine h.put D (by omega) (by omega) (.inr (.inr ⟨v,u,λe=>by subst e;omega,F,by omega,by omega⟩)) ⟨_,g0.hop (N:=cR) _ (O.hop au v D u Q) X,?_⟩;rw[jT,aa];rfl
def jI.join{rows:cn}{P R:Nat}{b p r:bH}(O:V.length<=24)(h:jI V L ts S b)(F:mM V L cs ts rows P p)(D:mM V L cs ts rows R r)(af:P &&& R=0)(Q:P ||| R=S)(Y:P+R=S){v:Nat}(u:v<V.length)(ao:p.getD v 0+r.getD v 0<b.getD v 0):jI V L ts S (b.set v (p.getD v 0+r.getD v 0)):=by
 have aq:=F.s.bd v u;have ag:=D.s.bd v u;have am:=h.bd v u;have f1:p.getD v 0<gU:=by omega
 have f2:r.getD v 0<gU:=by omega
 obtain⟨_,H,ab,ae⟩:=F.s.ok v u f1;obtain⟨_,K,X,aa⟩:=D.s.ok v u f2;have an:=F.le O u f1;have ai:=D.le O u f2;have ak:=(tP b).1;refine h.put u (by omega) (by omega) (.inl (by omega)) ⟨H++K,?_,by rw[Cg,ae,aa]⟩;have:=g0.part (N:=cR) af ab X
 rwa [Q]at this
def ih(b:bH):Int:=(b.map mV).sum
def zi(b:bH):0<=ih b/\ih b<=5000000*b.length:=zh (λa=>by unfold mV;split;split;omega;split<;>omega;omega) b
def KG(l:S<=64){b:bH}(q:V.length<=24)(a:jI V L ts S b)(d:au<V.length){c:Int}(p:0<=c)(m:c<b.getD au 0)(h:jI V L ts S (b.set au c)):ih (b.set au c)<ih b:=by
 have f:au<b.length:=by rw[a.len];exact d
 have u:=a.bd au d;have s:=(tP b).2;have t:=(tP (b.set au c)).2;have r:=h.len;have i:=h.ok au d (by rw[mD f,if_pos rfl];omega);rw[mD f,if_pos rfl]at i;have n:=i.1;have o:=a.len;unfold ih;rw[zg b au f];have j:mV c=c:=by unfold mV;rw[if_pos (by omega),if_neg (by omega),if_pos (by omega)]
 rw[j];by_cases e:b.getD au 0<gU
 .have k:=(a.ok au d e).1;have g:mV (b.getD au 0)=b.getD au 0:=by unfold mV;rw[if_pos e,if_neg (by omega),if_pos (by omega)]
  rw[g];omega
 .have g:mV (b.getD au 0)=5000000:=by unfold mV;rw[if_neg e]
  rw[g];omega
structure GH(V:List Int)(L:List bm)(cs:List (List Int))(ts:List Int)(rows:List (List Int))(n:Nat):Prop where
 len:n<=rows.length
 row:∀S,0<S->S<n->mM V L cs ts rows S (rows.getD S [])
theorem JM{rows:cn}(o:pQ V L cs)(u:∀t∈ts,t∈V)(e:GH V L cs ts rows (2 ^ ts.length)){root:Int}(k:root∈V)(G:0<ts.length):
  (∀K,(∀a∈K,a∈L)->(∀t,t∈ts->dk cR K root t)->(rows.getD (2 ^ ts.length-1) []).getD (V.idxOf root) 0<=dU cR K)/\
  ((rows.getD (2 ^ ts.length-1) []).getD (V.idxOf root) 0<gU->∃H,(∀a∈H,a∈L)/\(∀t,t∈ts->dk cR H root t)/\dU cR H=(rows.getD (2 ^ ts.length-1) []).getD (V.idxOf root) 0):=by
 have M:2 ^ 1<=2 ^ ts.length:=Nat.pow_le_pow_right (by omega) G;have bh:∀{x},x∈V->V.idxOf x<V.length:=λq=>List.idxOf_lt_length_of_mem q;constructor
 .intro K A E
  let C:Nat->Int->Int:=λS v=>@ite _ (v∈V) (Classical.propDecidable _) ((rows.getD S []).getD (V.idxOf v) 0) 0
  have d:∀S {v},v∈V->C S v=(rows.getD S []).getD (V.idxOf v) 0:=λS v b=>if_pos b
  have F:uk cR L ts.length (λc=>ts.getD c 0) C:=by
   refine⟨λa l=>by have:=(o.rT a l).2.2.2.1;show 0<=a.b6;omega,λc f=>?_,λS j h a l=>?_,λS r s h n z j m v=>?_⟩
   .have I:ts.getD c 0∈V:=u _ (by rw[List.getD_eq_getElem?_getD,List.getElem?_eq_getElem f];exact List.getElem_mem f);rw[d _ I];exact(e.row (2 ^ c) (Nat.two_pow_pos c) (Nat.pow_lt_pow_right (by omega) f)).one c f rfl
   .obtain⟨B,D,p,J,_⟩:=o.rT a l;have i:=e.row S j h;have:=i.hop _ _ (bh B) (bh D) (by rw[p];omega);rw[p]at this;show C S a.Hop.aO<=a.b6+C S a.Hop.aJ
    grind
   .have i:=e.row S (Nat.lt_of_lt_of_le n (by rw[<-m];exact Nat.left_le_or)) h;by_cases b:v∈V
    .rw[d _ b,d _ b,d _ b];exact i.part r s n z j m _ (bh b)
    .grind
  have:=F.le K.length K (Nat.le_refl _) A (2 ^ ts.length-1) (by omega) (by omega) root (uH.2 E)
  rwa [d _ k]at this
 .intro w;obtain⟨_,H,g,y⟩:=(e.row (2 ^ ts.length-1) (by omega) (by omega)).s.ok _ (bh k) w;rw[nu k]at g;exact⟨H,g.sub,uH.1 g.lZ,y⟩
end tab
end
section
variable {g:aK}{x:Int}
def x9(a:cQ g){y:Int}(d:x∈ids g)(e:y∈ids g):(jZ g x y).2=true↔dk cR (e6 g) x y:=by
 unfold jZ;simp only;rw[nW a d e];constructor
 .intro b;obtain⟨h,c⟩:=Option.isSome_iff_exists.1 b;exact Fm a (g1.1 c).1
 .intro b;obtain⟨i,f⟩:=Oc a b;obtain⟨h,c,_⟩:=zL (jl a) f;rw[c];rfl
def zj(b:cQ g){a:bm}(c:a∈e6 g):a.Hop.aO∈ids g/\a.Hop.aJ∈ids g:=by
 obtain⟨f,e,d⟩:=oU.1 c;have:=b.ends f e;rcases d with rfl|rfl
 .exact⟨iZ.2 this.1,iZ.2 this.2⟩
 .exact⟨iZ.2 this.2,iZ.2 this.1⟩
def L7(b:cQ g)(a:x∈ids g):1<=x/\x<=99:=by
 obtain⟨d,c,rfl⟩:=List.mem_map.1 a;exact b.ng d c
def qt{A:Type}[DecidableEq A]{a b:List A}(c:a.Nodup)(f:∀x∈a,x∈b):a.length<=b.length:=by
 induction a generalizing b with
 |nil=>simp
 |cons x a g=>
  rw[List.nodup_cons]at c;have d:=f x (by simp);have:=g (b:=b.erase x) c.2 λi e=>(List.mem_erase_of_ne (λh=>c.1 (by rw[<-h];exact e))).2 (f i (by simp[e]));rw[List.length_erase_of_mem d]at this;have:=List.length_pos_of_mem d;simp only[List.length_cons];omega
end
section
def KH{a b:Nat}(d:a<2 ^ 60)(c:b<2 ^ 60):fR .xor .i64 (a:Int) (b:Int)=((a ^^^ b:Nat):Int):=by
 have e:(a ^^^ b)<2 ^ 60:=Nat.xor_lt_two_pow d c;show an (((BitVec.ofInt 64 (a:Int) ^^^ BitVec.ofInt 64 (b:Int)).toNat:Nat):Int)=_;rw[BitVec.ofInt_natCast,BitVec.ofInt_natCast,BitVec.toNat_xor,BitVec.toNat_ofNat,BitVec.toNat_ofNat,Nat.mod_eq_of_lt (by omega),Nat.mod_eq_of_lt (by omega)];exact dO (by omega) (by omega)
variable {P S:Nat}
theorem KI(a:P &&& S=P):P &&& (S ^^^ P)=0/\P ||| (S ^^^ P)=S:=by
 have b:∀i,(P.testBit i&&S.testBit i)=P.testBit i:=λi=>by rw[<-Nat.testBit_and,a]
 constructor
 .grind
 .apply Nat.eq_of_testBit_eq
  grind
theorem KJ{R:Nat}(a:P &&& R=0)(b:P ||| R=S):R=S ^^^ P/\P &&& S=P:=by
 have d:∀i,(P.testBit i&&R.testBit i)=false:=λi=>by rw[<-Nat.testBit_and,a,Nat.zero_testBit]
 have c:∀i,(P.testBit i||R.testBit i)=S.testBit i:=λi=>by rw[<-Nat.testBit_or,b]
 constructor
 .apply Nat.eq_of_testBit_eq
  grind
 .grind
theorem Od{R:Nat}(e:P<2 ^ 60)(d:R<2 ^ 60)(a:P &&& R=0):P+R=P ||| R:=by
 have b:=BitVec.add_eq_or_of_and_eq_zero (BitVec.ofNat 64 P) (BitVec.ofNat 64 R) (by
  apply BitVec.eq_of_toNat_eq;rw[BitVec.toNat_and,BitVec.toNat_ofNat,BitVec.toNat_ofNat,Nat.mod_eq_of_lt (by omega),Nat.mod_eq_of_lt (by omega),a];rfl)
 have c:=congrArg BitVec.toNat b
 grind
def yF{R:Nat}(b:P &&& R=0)(c:P ||| R=S)(a:0<P):R<S:=nI (by rw[Nat.and_comm];exact b) (by rw[Nat.or_comm];exact c) a
variable {i:Nat}{α:Type}{l:List α}
theorem eG(d:α)(a:i<l.length):bq l (i:Int)=some (l.getD i d):=by
 apply cf
 grind
theorem jV(d:α)(hi:i<l.length)(x:α)(v:Nat):(l.set i x).getD v d=if v=i then x else l.getD v d:=by grind
theorem KK(d:α)(hi:i<l.length):l.set i (l.getD i d)=l:=by simp_all
section tab
variable {V:bH}{L:kZ}{cs:cn}{ts:bH}
def mM.congr{rows Q:cn}{S:Nat}{b:bH}(h:mM V L cs ts rows S b)(X:∀P,P<S->Q.getD P []=rows.getD P []):mM V L cs ts Q S b:=by
 refine⟨h.s,h.one,h.hop,λP R O F D u v ab=>?_⟩;have ae:=nI D u F;have aa:=yF D u O;rw[X P ae,X R aa];exact h.part P R O F D u v ab
structure Way(V:List Int)(L:List bm)(ts:List Int)(rows:List (List Int))(S:Nat)(j:Nat)(p:Nat->Nat->Prop)(b:List Int):Prop where
 len:b.length=V.length
 z:S=0->∀v,v<V.length->b.getD v 0=0
 s:0<S->jI V L ts S b
 one:∀i,i<j->i<ts.length->S=2 ^ i->b.getD (V.idxOf (ts.getD i 0)) 0<=0
 part:∀P v,p P v->0<P->P<S->P &&& S=P->v<V.length->b.getD v 0<=(rows.getD P []).getD v 0+(rows.getD (S ^^^ P) []).getD v 0
theorem Way.down{rows:cn}{S j:Nat}{p:Nat->Nat->Prop}{b:bH}(h:Way V L ts rows S j p b)(af:0<S){au:Nat}{c:Int}(ae:au<V.length)(bA:c<=b.getD au 0)(O:jI V L ts S (b.set au c)):Way V L ts rows S j p (b.set au c):=by
 have ab:au<b.length:=by rw[h.len];exact ae
 have Q:∀v,(b.set au c).getD v 0<=b.getD v 0:=λv=>by
  rw[mD ab];split
  .grind
  .omega
 exact⟨O.len,λag=>by omega,λ_=>O,λi F u D=>Int.le_trans (Q _) (h.one i F u D),λP v F u D X aa=>Int.le_trans (Q _) (h.part P v F u D X aa)⟩
def JN(T:pQ V L cs)(a9:∀t∈ts,t∈V)(ca:ts.length<=6){root:Int}(aB:root∈V):
  Ok (sI cs (V.idxOf root:Int) (ts.map λx=>(V.idxOf x:Int))) (λc=>(ts=[]->c=0)/\(0<ts.length->(∀K,(∀a∈K,a∈L)->(∀t,t∈ts->dk cR K root t)->c<=dU cR K)/\(c<gU->∃H,(∀a∈H,a∈L)/\(∀t,t∈ts->dk cR H root t)/\dU cR H=c))):=by
 have dK:gU=1099511627776:=rfl;have aF:=T.len;have br:=T.le;have dE:0<V.length:=List.length_pos_of_mem aB;have bh:∀{x},x∈V->V.idxOf x<V.length:=λZ=>List.idxOf_lt_length_of_mem Z;have cY:2 ^ ts.length<=64:=Nat.le_trans (Nat.pow_le_pow_right (by omega) ca) (by decide);have cD:1<=2 ^ ts.length:=Nat.one_le_two_pow;generalize aT:2 ^ ts.length=N at cY cD
 have cd:∀i:Nat,i<=6->IntKind.wrap .i64 ((1:Int)*2 ^ min (IntKind.wrap .u64 ((i:Nat):Int)).toNat 64)=((2 ^ i:Nat):Int):=λi I=>by
  have aE:2 ^ i<=2 ^ 6:=Nat.pow_le_pow_right (by omega) I;rw[wrap_u64 (by omega) (by omega),Int.toNat_natCast,Nat.min_eq_left (by omega),Int.one_mul];have c8:((2:Int) ^ i)=((2 ^ i:Nat):Int):=by simp
  rw[c8];generalize 2 ^ i=ed at aE ⊢;exact dO (by omega) (by omega)
 unfold sI;rw[List.length_map,cd _ ca,aT,aF];refine Ok.dR (by rw[wrap_u64 (by omega) (by omega)];simp) (Ok.dR (by simp;omega) (Ok.dR (by simp;omega) ?_));have bg:(List.replicate ((N:Nat):Int).toNat []:cn).length=N:=by simp
 rw[bg];refine avh (λi (h:cn)=>h.length=N/\(∀S:Nat,0<S->(S:Int)<i->mM V L cs ts h S (h.getD S []))/\((0:Int)<i->(h.getD 0 []).length=V.length/\∀f,f<V.length->(h.getD 0 []).getD f 0=0)) 0 (N:Int) ?_ ?_ _ 0 _ (by simp) (by omega) (by omega) ⟨bg,λS o p=>by omega,λd=>by omega⟩
 ·
  intro i h bf bj bE ch cf;obtain⟨bl,W,aw⟩:=ch;obtain⟨S,rfl⟩:=Int.eq_ofNat_of_zero_le bj;have ea:S<N:=by omega
  have w:S<h.length:=by omega
  have cN:∀b:bH,S<(h.set S b).length:=λb=>by rw[List.length_set];exact w
  have Y:∀b:bH,bq (h.set S b) (S:Int)=some b:=λb=>by rw[eG [] (cN b),jV [] w,if_pos rfl]
  have bT:∀(b:bH) (P:Nat),P<S->bq (h.set S b) (P:Int)=some (h.getD P []):=λb P D=>by rw[eG [] (by rw[List.length_set];omega),jV [] w,if_neg (by omega)]
  have am:∀b j:bH,List.set (h.set S b) S j=h.set S j:=λb j=>List.set_set ..
  have dY:∀P:Nat,P<S->(h.getD P []).length=V.length:=λP D=>by
   rcases Nat.eq_zero_or_pos P with v|v
   .subst v;exact(aw (by omega)).1
   .exact(W P v (by omega)).s.len
  refine Ok.dR (by simp;omega) ?_;rw[eG [] w,aU,Int.toNat_natCast,Int.toNat_natCast,Y,aU,List.length_replicate];refine Ok.dR (by simp;omega) ?_;refine avh (λa6 (a7:cn)=>∃b:bH,a7=h.set S b/\b.length=V.length/\∀f:Nat,(f:Int)<a6->b.getD f 0=if S=0 then 0 else gU) 0 (V.length:Int) ?_ ?_ _ 0 _ (by simp) (by omega) (by omega) ⟨_,rfl,by simp,λf q=>by omega⟩
  .rintro a6 a7 dh bk bu ⟨b,rfl,U,aC⟩ cp;obtain⟨l,rfl⟩:=Int.eq_ofNat_of_zero_le bk;have aG:l<b.length:=by omega
   refine au0 (λaI=>∃b:bH,aI=h.set S b/\b.length=V.length/\∀f:Nat,(f:Int)<(l:Int)+1->b.getD f 0=if S=0 then 0 else gU) (λaI u=>cp aI u) λa8 O=>?_;rw[Y,aU,eG 0 aG,aU,Int.toNat_natCast,am]
   have bc:∀(j:bH) (x:Int),j.length=V.length->(∀f:Nat,f<l->j.getD f 0=b.getD f 0)->x=(if S=0 then 0 else gU)->∀f:Nat,(f:Int)<(l:Int)+1->(j.set l x).getD f 0=if S=0 then 0 else gU:=λj x o p Z f q=>by
    rw[mD (by omega)];split
    .exact Z
    .rw[p f (by omega)];exact aC f (by omega)
   refine Ok.cs (λz=>?_) λz=>?_
   .have aY:S=0:=by have:=of_decide_eq_true z;omega
    rw[Y,aU,eG 0 (by rw[List.length_set];exact aG),aU,am];exact O _ ⟨_,rfl,by simpa using U,bc _ 0 (by simpa using U) (λf q=>by rw[mD aG,if_neg (by omega)]) (by rw[if_pos aY])⟩
   .have aY:¬S=0:=by have:=of_decide_eq_false z;omega
    exact O _ ⟨_,rfl,by simpa using U,bc b _ U (λ_ _=>rfl) (by rw[if_neg aY])⟩
  .rintro a6 a7 bk bu ⟨b,rfl,U,aC⟩;have ce:=bu (by omega);subst ce;have aS:∀f,f<V.length->b.getD f 0=if S=0 then 0 else gU:=λf q=>aC f (by omega)
   have cX:(ts.map λx=>(V.idxOf x:Int)).length=ts.length:=List.length_map ..;refine au7 (L:=ts.map λx=>(V.idxOf x:Int)) (λm (aW:cn)=>∃b,aW=h.set S b/\Way V L ts h S m.length (λ_ _=>False) b) ?_ _ ⟨b,rfl,U,λv f q=>by rw[aS f q,if_pos v],λv=>⟨U,λf q=>by rw[aS f q,if_neg (by omega)];omega,λf q aq=>by rw[aS f q,if_neg (by omega)]at aq;omega⟩,λi I=>by simp at I,λP f aE=>aE.elim⟩ ?_
   .rintro m x dd aW dp ar ⟨b,rfl,g⟩ cu;have Z:(ts.map λx=>(V.idxOf x:Int))[m.length]?=some x:=by rw[ar];simp
    rw[List.getElem?_map]at Z;obtain⟨t,a3,rfl⟩:=Option.map_eq_some_iff.1 Z;have cZ:=(List.getElem?_eq_some_iff.1 a3).1;have b1:=a9 t (List.mem_of_getElem? a3);have bD:ts.getD m.length 0=t:=by rw[List.getD_eq_getElem?_getD,a3];rfl
    have E:=bh b1;refine au0 (λaZ=>∃b,aZ=h.set S b/\Way V L ts h S (m.length+1) (λ_ _=>False) b) (λaZ d=>cu aZ (by simpa using d)) λa8 O=>?_;refine Ok.dR (by rw[wrap_u64 (by omega) (by omega)];simp) ?_;rw[cd m.length (by omega)];refine Ok.cs (λz=>?_) λz=>?_
    .have aA:S=2 ^ m.length:=by have:=of_decide_eq_true z;omega
     have C:0<S:=by rw[aA];exact Nat.two_pow_pos _
     rw[Y,aU,eG 0 (by rw[g.len];exact E),aU,Int.toNat_natCast,am];have aa:=(tP b).1;have ai:=g0.one (N:=cR) (L:=L) (k:=ts.length) (ts:=λi=>ts.getD i 0) m.length cZ;simp only[bD]at ai;rw[<-aA]at ai;have ag:=(g.s C).put E (Int.le_refl 0) (by decide) (.inl (by omega)) ⟨[],by rw[nu b1];exact ai,rfl⟩;have y:=g.down C E ((g.s C).bd _ E).1 ag;refine O _ ⟨_,rfl,y.len,y.z,y.s,λi I o p=>?_,y.part⟩;by_cases aR:i=m.length
     .subst aR;rw[bD,mD (by rw[g.len];exact E),if_pos rfl];exact Int.le_refl _
     .exact y.one i (by omega) o p
    .have aA:¬S=2 ^ m.length:=by have:=of_decide_eq_false z;omega
     refine O _ ⟨b,rfl,g.len,g.z,g.s,λi I o p=>?_,g.part⟩;by_cases aR:i=m.length
     .subst aR;exact absurd p aA
     .exact g.one i (by omega) o p
   .rintro aW ⟨b,rfl,g⟩;rw[cX]at g;refine au2 (λn:Int×cn=>∃(f:Nat) (b:bH),n=((f:Int),h.set S b)/\f<=V.length/\Way V L ts h S ts.length (λ_ e=>e<f) b) (λn=>V.length-n.1.toNat) ⟨0,b,rfl,Nat.zero_le _,g.len,g.z,g.s,g.one,λP f d=>by omega⟩ (by simp only;omega) ?_;rintro⟨dn,eb⟩ dv ⟨f,b,r,dZ,g⟩ cP;simp only[Prod.mk.injEq]at r;obtain⟨rfl,rfl⟩:=r;refine Ok.cs (λz=>?_) λz=>?_
    .simp only[Bool.and_eq_true,decide_eq_true_eq]at z;have C:0<S:=by omega
     have q:f<V.length:=by omega
     have bV:∀P:Nat,0<P->P<=S->fR .and .i64 (an ((P:Int)-1)) (S:Int)=(((P-1) &&& S:Nat):Int):=λP o p=>by
      rw[dO (by omega) (by omega),show((P:Int)-1)=((P-1:Nat):Int)by omega,yd (by omega) (by omega)]
     rw[bV S C (Nat.le_refl _)];refine au2 (λn:Int×cn=>∃(P:Nat) (b:bH),n=((P:Int),h.set S b)/\P &&& S=P/\P<S/\Way V L ts h S ts.length (λs e=>e<f\/e=f/\P<s) b) (λn=>n.1.toNat) ⟨(S-1) &&& S,b,rfl,xR (a:=S-1) (S:=S) 0,Nat.lt_of_le_of_lt Nat.and_le_left (by omega),g.len,g.z,g.s,g.one,λs e d o p u M=>?_⟩ (by simp only[Int.toNat_natCast];have:(S-1) &&& S<=S-1:=Nat.and_le_left;omega) ?_
     .rcases d with d|⟨_,d⟩
      .exact g.part s e d o p u M
      .have:=ye S S s (Nat.and_self _) u p;omega
     .rintro⟨dj,dJ⟩ cq ⟨P,b,r,bx,cK,g⟩ cS;simp only[Prod.mk.injEq]at r;obtain⟨rfl,rfl⟩:=r;refine Ok.cs (λaV=>?_) λaV=>?_
      .have D:0<P:=by have:=of_decide_eq_true aV;omega
       obtain⟨a0,ak⟩:=KI bx;have cy:S ^^^ P<S:=yF a0 ak D;have ag:0<S ^^^ P:=by
        rcases Nat.eq_zero_or_pos (S ^^^ P)with d|d
        .rw[d]at ak;simp at ak;omega
        .exact d
       have a4:=W P D (by omega);have a5:=W (S ^^^ P) ag (by omega);have cC:P+(S ^^^ P)=S:=by rw[Od (by omega) (by omega) a0,ak]
       have a1:f<b.length:=by rw[g.len];exact q
       have dP:=a4.s.bd f q;have dS:=a5.s.bd f q;have dt:=(g.s C).bd f q;rw[Y,aU,eG 0 a1,aU,bT b P cK,aU,eG 0 (by rw[a4.s.len];exact q),aU,KH (by omega) (by omega),bT b _ cy,aU,eG 0 (by rw[a5.s.len];exact q),aU,Int.toNat_natCast,am,bV P D (by omega),dO (by omega) (by omega)];have dG:(P-1) &&& S<=P-1:=Nat.and_le_left
       have cb:∀j,Way V L ts h S ts.length (λs e=>e<f\/e=f/\P<s) j->j.getD f 0<=(h.getD P []).getD f 0+(h.getD (S ^^^ P) []).getD f 0->Ok (cq (((((P-1) &&& S:Nat)):Int),h.set S j)) (λc=>(ts=[]->c=0)/\(0<ts.length->(∀K,(∀a∈K,a∈L)->(∀t,t∈ts->dk cR K root t)->c<=dU cR K)/\(c<gU->∃H,(∀a∈H,a∈L)/\(∀t,t∈ts->dk cR H root t)/\dU cR H=c))):=λj ae bA=>by
        refine cS _ ⟨(P-1) &&& S,j,rfl,xR (a:=P-1) (S:=S) 0,by omega,ae.len,ae.z,ae.s,ae.one,λs e d o p u M=>?_⟩ (by simp only[Int.toNat_natCast];omega);rcases d with d|⟨rfl,d⟩
        .exact ae.part s e (.inl d) o p u M
        .by_cases cI:P<s
         .exact ae.part s e (.inr ⟨rfl,cI⟩) o p u M
         .have cM:s=P:=by
           rcases Nat.lt_or_ge s P with ba|ba
           .have:=ye P S s bx u ba;omega
           .omega
          subst cM;exact bA
       split
       .rename_i aq;have ax:=(g.s C).join br a4 a5 a0 ak cC q aq;exact cb _ (g.down C q (by omega) ax) (by rw[mD a1,if_pos rfl];exact Int.le_refl _)
       .rename_i aq;rw[KK 0 a1];exact cb _ g (by omega)
      .have D:P=0:=by have:=of_decide_eq_false aV;omega
       subst D;rw[dO (by omega) (by omega)];refine cP _ ⟨f+1,b,by simp,q,g.len,g.z,g.s,g.one,λs e d o p u M=>g.part s e ?_ o p u M⟩ (by simp only;omega);rcases Nat.lt_or_eq_of_le (Nat.le_of_lt_succ d)with d|d
       .exact .inl d
       .exact .inr ⟨d,o⟩
    ·
     have bi:Way V L ts h S ts.length (λ_ _=>True) b:=by
      refine⟨g.len,g.z,g.s,g.one,λs e _ o p u M=>g.part s e ?_ o p u M⟩;simp only[Bool.and_eq_false_iff,decide_eq_false_iff_not]at z;omega
     refine au2 (λn:Bool×cn=>∃b:bH,n.2=h.set S b/\Way V L ts h S ts.length (λ_ _=>True) b/\(S=0->n.1=false)/\(n.1=false->0<S->∀l e,l<V.length->e<V.length->0<fF cs l e->b.getD l 0<=fF cs l e+b.getD e 0)) (λn=>2*(ih (n.2.getD S [])).toNat+(bif n.1 then 1 else 0)) ⟨b,rfl,bi,λd=>by simp[d],λd v=>by simp at d;omega⟩ ?_ ?_
     .have o:=(zi b).2;have p:=bi.len;simp only;rw[jV [] w,if_pos rfl];have:(bif decide ((0:Int)<(S:Int))then 1 else 0)<=1:=by cases decide ((0:Int)<(S:Int))<;>simp
      omega
     rintro⟨af,ec⟩ dy ⟨b,r,g,be,bP⟩ cT;simp only at r be bP;subst r;cases af with
     |false=>
      refine cf _ ⟨by rw[List.length_set];exact bl,λbv o p=>?_,λ_=>?_⟩
      .by_cases bJ:bv=S
       .subst bJ;rw[jV [] w,if_pos rfl];refine⟨g.s o,λi I dc=>g.one i I I dc,bP rfl o,λP de D ag v aD e B=>?_⟩;obtain⟨da,db⟩:=KJ v aD;have cJ:=nI v aD ag;have dI:=yF v aD D;rw[jV [] w,jV [] w,if_neg (by omega),if_neg (by omega),da];exact g.part P e trivial D cJ db B
       .rw[jV [] w,if_neg bJ];exact(W bv o (by omega)).congr λP D=>by rw[jV [] w,if_neg (by omega)]
      .rw[jV [] w];split
       .rename_i v;exact⟨g.len,g.z v.symm⟩
       .exact aw (by omega)
     |true=>
      have C:0<S:=by
       rcases Nat.eq_zero_or_pos S with d|d
       .exact absurd (be d) (by simp)
       .exact d
      refine au7 (L:=cs) (λm (n:Bool×cn)=>∃j:bH,n.2=h.set S j/\Way V L ts h S ts.length (λ_ _=>True) j/\ih j<=ih b/\(n.1=true->ih j<ih b)/\(n.1=false->j=b/\∀l,l<m.length->∀e,e<V.length->0<fF cs l e->b.getD l 0<=fF cs l e+b.getD e 0)) ?_ _ ⟨b,rfl,g,Int.le_refl _,λd=>(by cases d),λ_=>⟨rfl,λl E=>by simp at E⟩⟩ ?_
      .rintro m aM dd ⟨af,c3⟩ dC ar ⟨ao,r,aX,J,G,A⟩ cU;simp only at r J G A;subst r;have Q:m.length<V.length:=by have:=congrArg List.length ar;simp at this;omega
       have bL:cs.getD m.length []=aM:=by rw[ar,List.getD_eq_getElem?_getD];simp
       have bF:aM.length=V.length:=by rw[<-bL];exact T.row _ Q
       refine au7 (L:=cs) (λF (n:Bool×cn)=>∃j:bH,n.2=h.set S j/\Way V L ts h S ts.length (λ_ _=>True) j/\ih j<=ih b/\(n.1=true->ih j<ih b)/\(n.1=false->j=b/\(∀l,l<m.length->∀e,e<V.length->0<fF cs l e->b.getD l 0<=fF cs l e+b.getD e 0)/\∀e,e<F.length->0<fF cs m.length e->b.getD m.length 0<=fF cs m.length e+b.getD e 0)) ?_ _ ⟨ao,rfl,aX,J,G,λd=>⟨(A d).1,(A d).2,λe B=>by simp at B⟩⟩ ?_
       .rintro F dA ci ⟨af,c0⟩ dD cz ⟨R,r,y,J,G,A⟩ cV;simp only at r J G A;subst r;have X:F.length<V.length:=by have:=congrArg List.length cz;simp at this;omega
        have bs:aM.getD F.length 0=fF cs m.length F.length:=by rw[<-bL];rfl
        have bW:m.length<R.length:=by rw[y.len];exact Q
        have bY:F.length<R.length:=by rw[y.len];exact X
        have az:=y.s C;have dX:=az.bd _ Q;have dM:=az.bd _ X;refine au0 (λn:Bool×cn=>∃j:bH,n.2=h.set S j/\Way V L ts h S ts.length (λ_ _=>True) j/\ih j<=ih b/\(n.1=true->ih j<ih b)/\(n.1=false->j=b/\(∀l,l<m.length->∀e,e<V.length->0<fF cs l e->b.getD l 0<=fF cs l e+b.getD e 0)/\∀e,e<F.length+1->0<fF cs m.length e->b.getD m.length 0<=fF cs m.length e+b.getD e 0)) (λn d=>cV n (by simpa using d)) λa8 O=>?_;refine au0 (λc=>c=decide (0<fF cs m.length F.length/\fF cs m.length F.length+R.getD F.length 0<R.getD m.length 0)) (λc z=>?_) λdw bn=>?_
        .subst z;refine Ok.cs (λd=>?_) λd=>?_
         .obtain⟨o,p⟩:=of_decide_eq_true d;have u:=T.A0 Q X o;rw[Y,aU,eG 0 (by rw[bF];exact X),aU,eG 0 bY,aU,eG 0 bW,aU,Int.toNat_natCast,am,bs,dO (by omega) (by omega)];have ax:=az.step T Q X o p;have dx:=KG (by omega) br az Q (by omega) p ax;exact O _ ⟨_,rfl,y.down C Q (by omega) ax,by omega,λ_=>(by omega),λd=>(by cases d)⟩
         .have d:=of_decide_eq_false d;refine O _ ⟨R,rfl,y,J,G,λaa=>?_⟩;obtain⟨f1,f2,f3⟩:=A aa;refine⟨f1,f2,λe B ab=>?_⟩;by_cases c7:e=F.length
          .subst c7;rw[f1]at d;omega
          .exact f3 e (by omega) ab
        .rw[eG 0 (by rw[bF];exact X),aU,bs];refine Ok.cs (λd=>?_) λd=>?_
         .have d:=of_decide_eq_true d;have u:=T.A0 Q X d;rw[Y,aU,eG 0 bY,aU,eG 0 bW,aU,dO (by omega) (by omega)];exact bn _ (by simp[d])
         .have d:=of_decide_eq_false d;exact bn _ (by simp[d])
       .rintro⟨af,c0⟩ ⟨R,r,y,J,G,A⟩;refine cU _ ⟨R,r,y,J,G,λaa=>?_⟩;obtain⟨f1,f2,f3⟩:=A aa;refine⟨f1,λl E e B ab=>?_⟩;by_cases c6:l=m.length
        .subst c6;exact f3 e (by rw[aF];exact B) ab
        .exact f2 l (by simp at E;omega) e B ab
      .rintro⟨af,c3⟩ ⟨ao,r,aX,J,G,A⟩;simp only at r J G A;subst r;have dq:=(zi b).1;have ci:=(zi ao).1;refine cT _ ⟨ao,rfl,aX,λd=>by omega,λaa _ l e E B ab=>?_⟩ ?_
       .obtain⟨f1,f2⟩:=A aa;rw[f1];exact f2 l (by rw[aF];exact E) e B ab
       .simp only;rw[jV [] w,jV [] w,if_pos rfl,if_pos rfl];cases af with
        |true=>have:=G rfl;simp only[cond_true];omega
        |false=>have:=(A rfl).1;subst this;simp
 .rintro i h bj bE ⟨bl,W,aw⟩;have I:=bE (by omega);subst I;have B:an ((h.length:Int)-1)=((N-1:Nat):Int):=by rw[dO (by omega) (by omega)];omega
  have b4:=aw (by omega);have cj:(h.getD (N-1) []).length=V.length:=by
   rcases Nat.eq_zero_or_pos (N-1)with d|d
   .rw[d];exact b4.1
   .exact(W (N-1) d (by omega)).s.len
  rw[B,eG [] (by omega),aU,eG 0 (by rw[cj];exact bh aB),aU];refine Ok.s ⟨λv=>?_,λo=>?_⟩
  .subst v;have cG:N=1:=by rw[<-aT];rfl
   subst cG;exact b4.2 _ (bh aB)
  .have ai:GH V L cs ts h (2 ^ ts.length):=⟨by omega,λS p u=>W S p (by omega)⟩;have:=JM T a9 ai aB o;rw[aT]at this;exact this
end tab
end
section
variable {au:Nat}{m:cn}
theorem EN{n v:Nat}{c:Int}(f:m.length=n)(e:∀au,au<n->(m.getD au []).length=n)(g:au<n)(d:v<n)(b a:Nat):fF (m.set au ((m.getD au []).set v c)) b a=if b=au/\a=v then c else fF m b a:=by
 unfold fF
 grind
theorem DW{n v:Nat}{c:Int}(d:m.length=n)(b:∀au,au<n->(m.getD au []).length=n)(e:au<n):∀w,w<n->((m.set au ((m.getD au []).set v c)).getD w []).length=n:=λw a=>by
 rw[jV [] (by omega)];split
 .grind
 .exact b w a
structure Oe(g:aK)(r:List (List Int)×fc 100):Prop where
 cw:pQ (ids g) (e6 g) r.1
 at_:∀x∈ids g,bq r.2.l x=some ((ids g).idxOf x:Int)
def q4{V:bH}{x y:Int}(a:x∈V)(b:y∈V)(c:V.idxOf x=V.idxOf y):x=y:=by
 rw[<-nu a,<-nu b,c]
variable {g:aK}
def JO(d:cQ g)(aZ:0<g.aP.length):Ok (sH g) (Oe g):=by
 have a1:=d.jr;have ae:(ids g).length=g.aP.length:=by simp[ids]
 have aI:(ids g).Nodup:=(uJ d).imp λh=>Int.ne_of_lt h;unfold sH;refine au7 (L:=g.aP) (λ(j:oO) (m:fc 100)=>∀(i:Nat) (x:Int),(j.map (·.b7))[i]?=some x->m.l[x.toNat]?=some (i:Int)) ?_ _ (λi x h=>by simp at h) ?_
 .rintro j x aR m bf p u ax;have s:x∈g.aP:=by rw[p];simp
  have a4:=d.ng x s;have aY:=m.h;have aD:bq m.l x.b7=some (m.l.getD x.b7.toNat 0):=by
   have h:=eG 0 (l:=m.l) (i:=x.b7.toNat) (by omega)
   rwa [Int.toNat_of_nonneg (by omega)]at h
  rw[aD,aU];refine ax _ λi aq k=>?_;show(m.l.set x.b7.toNat (j.length:Int))[aq.toNat]?=_;rw[List.map_append,List.getElem?_append]at k;split at k
  .rename_i an;have aG:aq∈j.map (·.b7):=List.mem_of_getElem? k;obtain⟨T,ao,rfl⟩:=List.mem_map.1 aG;have a3:T.b7≠x.b7:=by
    have:=d.iu;rw[p,List.pairwise_append]at this;have:=this.2.2 T ao x (by simp);omega
   have a5:=d.ng T (by rw[p];simp[ao]);rw[List.getElem?_set_ne (by omega)];exact u i _ k
  .rename_i an;simp only[List.length_map,List.map_cons,List.map_nil]at k an;rw[List.getElem?_singleton]at k;split at k
   .rename_i y;cases k;rw[List.getElem?_set_self (by omega),show j.length=i by omega]
   .cases k
 .intro m aC
  have Q:∀x∈ids g,bq m.l x=some ((ids g).idxOf x:Int):=λx s=>by
   have y:=aC ((ids g).idxOf x) x (by
    have:=List.idxOf_lt_length_of_mem s;show(ids g)[(ids g).idxOf x]?=some x;rw[List.getElem?_eq_getElem this];exact congrArg some (List.getElem_idxOf _))
   have:=L7 d s;unfold bq;rw[if_pos (by omega)];exact y
  refine Ok.dR (by simp;omega) (Ok.dR (by simp;omega) ?_);have Y:(List.replicate ((g.aP.length:Nat):Int).toNat []:cn).length=(ids g).length:=by simp[ae]
  rw[Y];refine avh (λS (H:cn)=>H.length=(ids g).length/\∀au:Nat,(au:Int)<S->H.getD au []=List.replicate (ids g).length 0) 0 ((ids g).length:Int) ?_ ?_ _ 0 _ (by simp) (by omega) (by omega) ⟨Y,λau G=>by omega⟩
  .rintro S H aV Z ab ⟨w,u⟩ aB;obtain⟨au,rfl⟩:=Int.eq_ofNat_of_zero_le Z;refine Ok.dR (by simp;omega) ?_;rw[eG [] (by omega),aU];refine aB _ ⟨by rw[List.length_set];exact w,λaS aT=>?_⟩;rw[Int.toNat_natCast,Int.toNat_natCast,jV [] (by omega)];split
   .rw[ae]
   .exact u aS (by omega)
  .rintro S H Z ab ⟨w,u⟩;have ar:=ab (by omega);subst ar;have bh:∀{x},x∈ids g->(ids g).idxOf x<(ids g).length:=λs=>List.idxOf_lt_length_of_mem s;refine au7 (L:=g.Links) (λj (e:cn)=>e.length=(ids g).length/\(∀au,au<(ids g).length->(e.getD au []).length=(ids g).length)/\(∀a∈j.flatMap iT,fF e ((ids g).idxOf a.Hop.aO) ((ids g).idxOf a.Hop.aJ)=a.b6)/\∀au v,au<(ids g).length->v<(ids g).length->0<fF e au v->bm.mk (aQ.mk ((ids g).getD au 0) ((ids g).getD v 0)) (fF e au v)∈j.flatMap iT) ?_ _ ⟨w,λau G=>by rw[u au (by omega)];simp,λa b=>by simp at b,λau v G N h=>?_⟩ ?_
   .rintro j l aR e aX p ⟨z,A,M,K⟩ aE;have w:l∈g.Links:=by rw[p];simp
    have ag:=d.ends l w;have q:=iZ.2 ag.1;have r:=iZ.2 ag.2;have aW:=d.lt l w;have az:(ids g).idxOf l.A≠(ids g).idxOf l.B:=λaM=>by have:=q4 q r aM;omega
    have B:=bh q;have C:=bh r;rw[Q _ q,Q _ r,aU,eG [] (by omega),aU,aU,eG [] (by omega),aU,eG 0 (by rw[A _ B];exact C),aU,Int.toNat_natCast,Int.toNat_natCast];have F:=DW (v:=(ids g).idxOf l.B) (c:=l.eE) z A B;have D:(e.set ((ids g).idxOf l.A) ((e.getD ((ids g).idxOf l.A) []).set ((ids g).idxOf l.B) l.eE)).length=(ids g).length:=by rw[List.length_set];exact z
    have P:=EN (v:=(ids g).idxOf l.B) (c:=l.eE) z A B C;generalize e.set ((ids g).idxOf l.A) ((e.getD ((ids g).idxOf l.A) []).set ((ids g).idxOf l.B) l.eE)=a0 at F D P ⊢;rw[eG [] (by omega),aU,eG 0 (by rw[F _ C];exact B),aU];have aF:=DW (v:=(ids g).idxOf l.A) (c:=l.eP) D F C;have ai:=EN (v:=(ids g).idxOf l.A) (c:=l.eP) D F C B;have O:=y8 d;unfold e6 at O;rw[p,List.flatMap_append,List.flatMap_cons,List.pairwise_append]at O;have af:∀a∈j.flatMap iT,∀R∈iT l,a.Hop≠R.Hop:=λa b R aw=>O.2.2 a b R (List.mem_append.2 (.inl aw));have aA:∀a∈j.flatMap iT,a.Hop.aO∈ids g/\a.Hop.aJ∈ids g:=λa b=>zj d (by unfold e6;rw[p,List.flatMap_append];exact List.mem_append.2 (.inl b));have ak:bm.mk (aQ.mk l.A l.B) l.eE∈iT l:=by simp[iT]
    have am:bm.mk (aQ.mk l.B l.A) l.eP∈iT l:=by simp[iT]
    refine aE _ ⟨by rw[List.length_set];exact D,aF,λa b=>?_,λau v G N E=>?_⟩
    .rw[ai,P];rw[List.flatMap_append,List.flatMap_singleton]at b;rcases List.mem_append.1 b with b|b
     .obtain⟨W,X⟩:=aA a b;rw[if_neg,if_neg]
      .exact M a b
      .rintro⟨y,I⟩;refine af a b _ ak ?_;have o:=q4 W q y;have n:=q4 X r I;cases J:a.Hop with
       |mk f t=>rw[J]at o n;simp only at o n;rw[o,n]
      .rintro⟨y,I⟩;refine af a b _ am ?_;have o:=q4 W r y;have n:=q4 X q I;cases J:a.Hop with
       |mk f t=>rw[J]at o n;simp only at o n;rw[o,n]
     .simp only[iT,List.mem_cons,List.not_mem_nil,or_false]at b;rcases b with rfl|rfl
      .rw[if_neg (λh=>az h.1),if_pos ⟨rfl,rfl⟩]
      .rw[if_pos ⟨rfl,rfl⟩]
    .rw[ai,P]at E ⊢;rw[List.flatMap_append,List.flatMap_singleton];by_cases V:au=(ids g).idxOf l.B/\v=(ids g).idxOf l.A
     .obtain⟨rfl,rfl⟩:=V;rw[if_pos ⟨rfl,rfl⟩,nu q,nu r];exact List.mem_append.2 (.inr am)
     .rw[if_neg V]at E ⊢;by_cases U:au=(ids g).idxOf l.A/\v=(ids g).idxOf l.B
      .obtain⟨rfl,rfl⟩:=U;rw[if_pos ⟨rfl,rfl⟩,nu q,nu r];exact List.mem_append.2 (.inr ak)
      .rw[if_neg U]at E ⊢;exact List.mem_append.2 (.inl (K au v G N E))
   .exfalso;unfold fF at h;rw[u au (by omega),List.getD_eq_getElem?_getD,List.getElem?_replicate,if_pos N]at h;simp at h
   .rintro e ⟨z,A,M,K⟩;refine Ok.s ⟨⟨aI,by omega,z,A,λa b=>?_,K⟩,Q⟩;have:=zj d b;have aa:=(oZ d).cost a b;exact⟨this.1,this.2,M a b,aa.1,aa.2⟩
theorem nt(t:aK)(root:Int)(rs:bH)(f:rs.length<=100000):oE t root rs=some (kO t root rs):=by
 unfold oE kO;rw[xL,aU];by_cases b:fH t=0
 .rw[decide_eq_true b,BQ _ (by omega),aU];simp only[Bool.not_true,cond_false];cases gd (λc d:Int=>decide (c<d)) rs with
  |false=>rfl
  |true=>
   simp only[Bool.not_true,cond_false];rw[iB (by simp;omega),aU]
   refine(hH (λa=>!eX t a) (some 4) (λg e bf s=>by
    rw[qT t e,aU,decide_eq_true b,Bool.true_and]) _ _ _).trans ?_
   show(bif (root::rs).any (λa=>!eX t a)then some 4 else some 0)=_;cases(root::rs).any (λa=>!eX t a)<;>rfl
 .grind
variable {root:Int}{ts:bH}
def Bs(h:cQ g)(i:root∈ids g)(f:∀x∈ts,x∈ids g):Ok (qf g root ts) (λb=>b=true↔∀t,t∈ts->dk cR (e6 g) root t):=by
 unfold qf;rw[hH (λd=>!(jZ g root d).2) (some false) (λk x bf s=>by rw[JL,aU])];cases c:ts.any λd=>!(jZ g root d).2 with
 |true=>
  refine⟨false,rfl,⟨λc=>(by cases c),λj=>?_⟩⟩;obtain⟨t,a,e⟩:=List.any_eq_true.1 c;rw[(x9 h i (f t a)).2 (j t a)]at e;cases e
 |false=>
  refine⟨true,rfl,⟨λ_ t a=>?_,λ_=>rfl⟩⟩;have:=hS.1 c t a;exact(x9 h i (f t a)).1 (by simpa using this)
theorem Iw(c:cQ g)(d:root∈ids g)(k:ts.Pairwise (·<·))(h:∀x∈ts,x∈ids g)(A:ts.length<=6):
  Ok (l3 g root ts) (λr=>((∀t,t∈ts->dk cR (e6 g) root t)->r.2=0/\∀H,iq cR (e6 g) (λt=>t∈ts) root H->r.1=dU cR H)/\((¬∀t,t∈ts->dk cR (e6 g) root t)->r=(0,9))):=by
 have B:0<g.aP.length:=by
  have:=List.length_pos_of_mem d;simpa [ids]using this
 unfold l3;rw[nt _ _ _ (by omega),aU,lP c d k h,decide_eq_true rfl,decide_eq_false (by omega)];simp only[Bool.not_true,cond_false];refine Ok.aj (Bs c d h) λD a=>?_;cases D with
 |false=>
  have a:¬∀t,t∈ts->dk cR (e6 g) root t:=λf=>by have:=a.2 f;cases this
  exact⟨(0,9),rfl,λf=>absurd f a,λ_=>rfl⟩
 |true=>
  have a:=a.1 rfl;refine Ok.aj (JO c B) λr j=>?_;refine au7 (L:=ts) (λp (l:bH)=>l=p.map λx=>((ids g).idxOf x:Int)) ?_ _ rfl ?_
  .rintro p x O l bf m rfl G;have C:x∈ts:=by rw[m];simp
   have z:=congrArg List.length m;simp at z;rw[j.at_ x (h x C),aU,iB (by simp;omega),aU]
   grind
  .rintro l rfl;rw[j.at_ root d,aU];refine Ok.aj (JN j.cw h A d) λE o=>?_;refine⟨(E,0),rfl,λ_=>⟨rfl,λH b=>?_⟩,λf=>absurd a f⟩;by_cases n:ts=[]
   .subst n;rw[o.1 rfl];have w:=b.min [] (λi e=>by cases e) (λt s=>by cases s);have u:=xg (N:=cR) (H:=H) λi e=>by have:=b.pos i (b.sub i e);omega
    have M:dU cR ([]:kZ)=0:=rfl;omega
   .have k:0<ts.length:=List.length_pos_iff.2 n;obtain⟨y,v⟩:=o.2 k;have w:=y H b.sub b.lZ;have F:=b.min _ (λi e=>e) a;have I:=(np (oZ c).cost).2;have J:=(oZ c).len;have K:gU=1099511627776:=rfl;obtain⟨q,de,aZ,ec⟩:=v (by omega);have u:=b.min q de aZ;omega
end
section
abbrev mW(l:bH):Bool:=gd (λa b=>decide (a<b)) l
noncomputable def lu(t:aK)(x:b0)(rs:bH):Int:=
 bif !decide (fH t=0)then 1 else bif !decide (jN x=0)then jN x else bif (x.cH::rs).any (λa=>!eX t a)then 4 else bif x.Links.any (λb=>!(gz t b.aO b.aJ).2)then 4 else bif !mW rs then 25 else bif rs.any (λa=>!decide (a∈mL x))then 9 else 0
theorem Bu(t:aK)(x:b0)(rs:bH)(h:x.Links.length<=90000)(l:rs.length<=90000):oq t x rs=some (lu t x rs):=by
 unfold oq lu;rw[ti,aU];by_cases c:fH t=0
 rotate_left
 .grind
 have d:=iL.1 c;have k:=d.jr;have i:=d.nl;rw[decide_eq_true c,Hz _ (by omega),aU];simp only[Bool.not_true,cond_false];cases j:!decide (jN x=0)with
 |true=>rfl
 |false=>
  simp only[cond_false];rw[iB (by simp;omega),aU]
  refine(hH (λa=>!eX t a) (some 4) (λe a bf s=>by
   rw[y4 t a (by omega),aU,decide_eq_true c,Bool.true_and]) _ _ _).trans ?_
  show(bif (x.cH::rs).any (λa=>!eX t a)then some 4 else _)=_;cases(x.cH::rs).any (λa=>!eX t a)with
  |true=>rfl
  |false=>
   simp only[cond_false]
   refine(hH (λb:aQ=>!(gz t b.aO b.aJ).2) (some 4) (λe a bf s=>by
    rw[Eg t _ _ (by omega),if_pos c,aU]) _ _ _).trans ?_
   cases x.Links.any (λb=>!(gz t b.aO b.aJ).2)with
   |true=>rfl
   |false=>
    simp only[cond_false];rw[zK _ (by omega),aU];cases !gd (λf g:Int=>decide (f<g)) rs with
    |true=>rfl
    |false=>
     simp only[cond_false];rw[IL _ (by omega),aU];refine(hH (λa=>!decide (a∈mL x)) (some 9) (λe a bf s=>by rw[uz,aU]) _ _ _).trans ?_;cases rs.any (λa=>!decide (a∈mL x))<;>rfl
theorem Bm(t:aK)(x:b0)(rs:bH)(g:x.Links.length<=90000)(i:rs.length<=90000):oy t x rs=some (lu t x rs):=by
 unfold oy lu;rw[xL,aU];by_cases c:fH t=0
 rotate_left
 .grind
 rw[decide_eq_true c,Ho _ (by omega),aU];simp only[Bool.not_true,cond_false];cases h:!decide (jN x=0)with
 |true=>rfl
 |false=>
  simp only[cond_false];rw[qT,aU,decide_eq_true c,Bool.true_and,List.any_cons];cases eX t x.cH with
  |false=>rfl
  |true=>
  simp only[Bool.not_true,cond_false,Bool.false_or]
  refine(hH (λa=>!eX t a) (some 4) (λf a bf s=>by
   rw[qT t a,aU,decide_eq_true c,Bool.true_and]) _ _ _).trans ?_
  cases rs.any (λa=>!eX t a)with
  |true=>rfl
  |false=>
   simp only[cond_false]
   refine(hH (λb:aQ=>!(gz t b.aO b.aJ).2) (some 4) (λf a bf s=>by
    rw[Ef t,if_pos c,aU]) _ _ _).trans ?_
   cases x.Links.any (λb=>!(gz t b.aO b.aJ).2)with
   |true=>rfl
   |false=>
    simp only[cond_false];rw[BQ _ (by omega),aU];show(bif !gd (λd e:Int=>decide (d<e)) rs then _ else _)=_;cases !gd (λd e:Int=>decide (d<e)) rs with
    |true=>rfl
    |false=>
     simp only[cond_false];rw[Ih _ (by omega),aU];refine(hH (λa=>!decide (a∈mL x)) (some 9) (λf a bf s=>by rw[ob,aU]) _ _ _).trans ?_;cases rs.any (λa=>!decide (a∈mL x))<;>rfl
def PZ(t:aK)(l:lR):Int:=l.foldl (λb a=>an (b+(gz t a.aO a.aJ).1)) 0
noncomputable def vr(t:aK)(x:b0):Int×Int:=bif !decide (lu t x []=0)then(0,lu t x [])else(PZ t x.Links,0)
def zk{α σ β:Type}{B:Int->α->(σ->Option β)->σ->Option β}{K:σ->Option β}(f:σ->α->σ)(a:∀j x bf s,B j x bf s=bf (f s x)):∀(l:List α) (j:Nat) (s:σ),bZ l j B K s=K (l.foldl f s)
 |[],_,_=>rfl
 |x::r,j,s=>by rw[bZ,a,zk f a r (j+1)];rfl
def Fp{t:aK}{x:b0}{rs:bH}(a:lu t x rs=0):fH t=0:=by
 by_cases b:fH t=0
 .exact b
 .unfold lu at a;rw[decide_eq_false b]at a;cases a
theorem L8(t:aK)(x:b0)(c:x.Links.length<=90000):sN t x=some (vr t x):=by
 unfold sN vr;rw[Bu t x [] c (by simp),aU];by_cases a:lu t x []=0
 .rw[decide_eq_true a];have b:=Fp a;have e:=(iL.1 b).nl;simp only[Bool.not_true,cond_false];refine(zk (λd (a:aQ)=>an (d+(gz t a.aO a.aJ).1)) (λg f bf h=>by rw[Eg t _ _ (by omega),if_pos b,aU]) _ _ _).trans ?_;rfl
 .grind
theorem Jv(t:aK)(x:b0)(b:x.Links.length<=90000):sU t x=some (vr t x):=by
 unfold sU vr;rw[Bm t x [] b (by simp),aU];by_cases a:lu t x []=0
 .rw[decide_eq_true a];have c:=Fp a;simp only[Bool.not_true,cond_false];refine(zk (λd (a:aQ)=>an (d+(gz t a.aO a.aJ).1)) (λf e bf g=>by rw[Ef t,if_pos c,aU]) _ _ _).trans ?_;rfl
 .grind
def DX{l:bH}(a:l.Pairwise (·<·)):mW l=true:=oG (a.imp λa=>by simpa using a)
end
section
instance Sf:DecidableEq aQ:=λa b=>decidable_of_iff (gH a b=true) (qs a b)
end
section
inductive ge(av:List bm)(t:Int):Int->Int->Prop
 |nil:ge av t t 0
 |cons {a:bm} {c:Int} (ax:a∈av) (h:ge av t a.Hop.aJ c):ge av t a.Hop.aO (a.b6+c)
def EO(m:List (Int×Int))(r c x:Int):eA (bc m r c) x=if x=r then c else eA m x:=by
 unfold eA;rw[gx];split<;>rfl
variable {m:List (Int×Int)}{x:Int}
def nv{c:Int}(a:ay m x=some c):eA m x=c:=by unfold eA;rw[a];rfl
theorem yG(m:List (Int×Int))(n c:Int):(bc m n c).map Prod.fst=if n∈m.map Prod.fst then m.map Prod.fst else m.map Prod.fst++[n]:=by
 induction m with
 |nil=>simp[bc]
 |cons p r a=>
  unfold bc;by_cases b:p.1=n
  .grind
  .grind
theorem tG:(ay m x).isSome=true↔x∈m.map Prod.fst:=by
 unfold ay
 grind
structure jJ(av:List bm)(t:Int)(m:List (Int×Int)):Prop where
 zero:ay m t=some 0
 wa:∀x c,ay m x=some c->ge av t x c
 nd:(m.map Prod.fst).Nodup
 key:∀x∈m.map Prod.fst,x=t\/∃a∈av,a.Hop.aO=x
 le:∀x c,ay m x=some c->c<=1000000*((m.length:Int)-1)
variable {av:kZ}{t:Int}
def ge.jo(u:iF av){c:Int}(h:ge av t x c):0<=c:=by
 induction h with
 |nil=>omega
 |cons hm _ D=>have:=(u _ hm).1;omega
theorem jJ.len(h:jJ av t m):m.length<=av.length+1:=by
 have:=qt (a:=m.map Prod.fst) (b:=t::av.map (·.Hop.aO)) h.nd λx u=>by
  rcases h.key x u with rfl|⟨a,D,rfl⟩
  .simp
  .grind
 simpa using this
def jJ.bd(D:iF av)(Q:av.length<=100000)(h:jJ av t m)(x:Int):0<=eA m x/\eA m x<=2305843009213693951:=by
 unfold eA;cases u:ay m x with
 |none=>simp
 |some c=>
  have X:=(h.wa x c u).jo D;have F:=h.le x c u;have O:=h.len;simp only[Option.getD_some];omega
theorem jJ.step(F:iF av)(ag:av.length<=100000)(h:jJ av t m){a:bm}(ab:a∈av)(X:a.b6+eA m a.Hop.aJ<eA m a.Hop.aO):jJ av t (bc m a.Hop.aO (a.b6+eA m a.Hop.aJ)):=by
 obtain⟨aw,aq⟩:=F a ab;have ai:∃c,ay m a.Hop.aJ=some c:=by
  cases u:ay m a.Hop.aJ with
  |none=>
   have:eA m a.Hop.aJ=2305843009213693951:=by unfold eA;rw[u];rfl
   have:=(h.bd F ag a.Hop.aO).2;omega
  |some c=>exact⟨c,rfl⟩
 obtain⟨c,D⟩:=ai;have e:=nv D;rw[e]at X ⊢;have Q:=h.wa _ _ D;have az:=Q.jo F
 have am:t≠a.Hop.aO:=λan=>by
  have:eA m a.Hop.aO=0:=by rw[<-an];exact nv h.zero
  omega
 have ae:(bc m a.Hop.aO (a.b6+c)).length=if a.Hop.aO∈m.map Prod.fst then m.length else m.length+1:=by
  have:=congrArg List.length (yG m a.Hop.aO (a.b6+c))
  grind
 refine⟨?_,λx k u=>?_,?_,λx u=>?_,λx k u=>?_⟩
 .rw[gx,if_neg am];exact h.zero
 .rw[gx]at u;split at u
  .rename_i r3;subst r3;cases u;exact .cons ab Q
  .exact h.wa x k u
 .rw[yG];split
  .exact h.nd
  .rename_i ak;rw[List.nodup_append];exact⟨h.nd,by simp,λx u y O af=>by simp at O;subst O;subst af;exact ak u⟩
 .rw[yG]at u;split at u
  .exact h.key x u
  .rcases List.mem_append.1 u with u|u
   .exact h.key x u
   .grind
 .rw[ae];rw[gx]at u;have ax:1<=m.length:=by
   have:=tG.1 (show(ay m t).isSome=true by rw[h.zero];rfl)
   grind
  split at u
  .rename_i r3;subst r3
   cases u;split
   .rename_i ao;obtain⟨ar,aa⟩:=Option.isSome_iff_exists.1 (tG.2 ao);have:=h.le _ _ aa;rw[nv aa]at X;omega
   .have:=h.le _ _ D
    push_cast
    omega
  .have:=h.le x k u
   grind
def i2(av:kZ)(m:List (Int×Int)):Nat:=(av.map λa=>(eA m a.Hop.aO).toNat).sum
def Fq{m b:List (Int×Int)}(c:∀x,eA b x<=eA m x):∀av:kZ,i2 av b<=i2 av m
 |[]=>Nat.le_refl _
 |a::r=>by
  have d:=Fq c r;have e:=c a.Hop.aO;unfold i2 at d ⊢;simp only[List.map_cons,List.sum_cons];omega
theorem Fs{m d:List (Int×Int)}(e:∀x,eA d x<=eA m x){a:bm}(h:0<=eA d a.Hop.aO)(g:eA d a.Hop.aO<eA m a.Hop.aO):∀{av:kZ},a∈av->i2 av d<i2 av m
 |[],c=>by cases c
 |b::r,c=>by
  have i:=e b.Hop.aO;rcases List.mem_cons.1 c with rfl|c
  .have f:=Fq e r;unfold i2 at f ⊢
   grind
  .have f:=Fs e h g c;unfold i2 at f ⊢
   grind
theorem zl{av:kZ}(c:iF av)(f:av.length<=100000){t:Int}:∀(l:kZ) (m:List (Int×Int)) (b:Bool),(∀a∈l,a∈av)->jJ av t m->
  jJ av t (l.foldl iP (m,b)).1/\i2 av (l.foldl iP (m,b)).1<=i2 av m/\(∀x,eA (l.foldl iP (m,b)).1 x<=eA m x)/\
  ((l.foldl iP (m,b)).2=true->b=true\/i2 av (l.foldl iP (m,b)).1<i2 av m)/\((l.foldl iP (m,b)).2=false->b=false/\(l.foldl iP (m,b)).1=m/\∀a∈l,eA m a.Hop.aO<=a.b6+eA m a.Hop.aJ)
 |[],m,b,_,d=>⟨d,Nat.le_refl _,λ_=>Int.le_refl _,λd=>.inl d,λd=>⟨d,rfl,λa c=>by cases c⟩⟩
 |a::r,m,b,g,d=>by
  have i:=g a List.mem_cons_self;rw[List.foldl_cons];by_cases e:a.b6+eA m a.Hop.aJ<eA m a.Hop.aO
  .rw[show iP (m,b) a=(bc m a.Hop.aO (a.b6+eA m a.Hop.aJ),true)from if_pos e];have h:=d.step c f i e
   have bA:∀x,eA (bc m a.Hop.aO (a.b6+eA m a.Hop.aJ)) x<=eA m x:=λx=>by
    rw[EO];split
    .grind
    .omega
   have q:i2 av (bc m a.Hop.aO (a.b6+eA m a.Hop.aJ))<i2 av m:=Fs bA (h.bd c f _).1 (by rw[EO,if_pos rfl];exact e) i;obtain⟨j,k,p,n,o⟩:=zl c f r _ true (λa c=>g a (List.mem_cons_of_mem _ c)) h
   grind
  .rw[show iP (m,b) a=(m,b)from if_neg e];obtain⟨j,k,p,n,o⟩:=zl c f r m b (λa c=>g a (List.mem_cons_of_mem _ c)) d
   grind
def Ft{av:kZ}(c:iF av)(f:av.length<=100000){t:Int}:∀(k:Nat) (m:List (Int×Int)),i2 av m<k->jJ av t m->∃n,j9 av m n/\jJ av t n/\∀a∈av,eA n a.Hop.aO<=a.b6+eA n a.Hop.aJ
 |0,m,h,_=>absurd h (by omega)
 |k+1,m,h,e=>by
  obtain⟨j,q,r,l,o⟩:=zl c f (t:=t) av m false (λa c=>c) e;cases b:(nZ av m).2 with
  |false=>exact⟨m,.done b,e,(o b).2.2⟩
  |true=>
   rcases l b with d|d
   .cases d
   .obtain⟨n,p,g,i⟩:=Ft c f k (nZ av m).1 (by show i2 av (av.foldl iP (m,false)).1<k;omega) j;exact⟨n,.more b p,g,i⟩
structure pf(av:List bm)(t:Int)(n:List (Int×Int)):Prop where
 bz:jJ av t n
 fix:∀a∈av,eA n a.Hop.aO<=a.b6+eA n a.Hop.aJ
theorem Iy(c:iF av)(h:av.length<=100000)(t:Int):Ok (oz av t) (pf av t):=by
 have i:jJ av t [(t,0)]:=by
  have f:∀x a,ay [(t,(0:Int))] x=some a->x=t/\a=0:=λx a b=>by
   rw[fP]at b;split at b
   .grind
   .simp[ay]at b
  refine⟨by rw[fP,if_pos rfl],λx a b=>?_,by simp,λx d=>.inl (by simpa using d),λx a b=>?_⟩
  .obtain⟨rfl,rfl⟩:=f x a b;exact .nil
  .grind
 obtain⟨k,j,e,g⟩:=Ft c h _ _ (Nat.lt_succ_self _) i;exact⟨k,Ii c j,e,g⟩
def pf.least(aa:iF av)(ai:av.length<=100000){n:List (Int×Int)}(h:pf av t n){c:Int}(Q:ge av t x c):∃k,ay n x=some k/\k<=c:=by
 induction Q with
 |nil=>exact⟨0,h.bz.zero,Int.le_refl _⟩
 |@cons a c hm _ O=>
  obtain⟨k,F,ab⟩:=O;have D:=h.fix a hm;rw[nv F]at D;have ae:=h.bz.le _ _ F;have af:=h.bz.len;have ag:=(aa a hm).2;cases u:ay n a.Hop.aO with
  |none=>
   have:eA n a.Hop.aO=2305843009213693951:=by unfold eA;rw[u];rfl
   omega
  |some X=>
   rw[nv u]at D;exact⟨X,rfl,by omega⟩
end
section
theorem mh{x:Int}:∀{l:bH},x∈dZ l↔x∈l
 |[]=>Iff.rfl
 |y::r=>by
  have a:x∈dZ r↔x∈r:=mh;unfold dZ;split
  .grind
  .grind
def C1:∀{l:bH},l.Pairwise (·<=·)->(dZ l).Pairwise (·<·)
 |[],_=>List.Pairwise.nil
 |x::r,h=>by
  rw[List.pairwise_cons]at h;have c:=C1 h.2;unfold dZ;split
  .simp
  .rename_i e g d;rw[d]at c;split
   .exact c
   .rename_i i;have f:∀b∈e::g,x<=b:=λb a=>h.1 b (mh.1 (by rw[d];exact a));rw[List.pairwise_cons];refine⟨λb a=>?_,c⟩;have j:=f e List.mem_cons_self;rcases List.mem_cons.1 a with rfl|a
    .omega
    .have:=(List.pairwise_cons.1 c).1 b a;omega
def nw{x:Int}{l:bH}:x∈dh l↔x∈l:=(mb l).mem_iff
def kR(n:List (Int×Int))(b:Int):bH:=(dh (n.map Prod.fst)).filter λa=>decide ((ay n a).getD 0<=b)
def gh(n:List (Int×Int))(e:Int):bH->mR
 |[]=>[]
 |[_]=>[]
 |b::a::r=>if e<=b then[]else bI.mk (kR n b) ((if e<a then e else a)-b)::gh n e (a::r)
def jg(a w:Int)(c:bI):Int:=if w∈c.aP/\a∉c.aP then c.Value else 0
def gB(l:mR)(a w:Int):Int:=(l.map (jg a w)).sum
def hg(l:mR):Int:=(l.map (·.Value)).sum
def gu(n:List (Int×Int)):bH:=dZ (dh (n.map Prod.snd))
theorem DY{n:List (Int×Int)}{x c:Int}(a:ay n x=some c):c∈n.map Prod.snd:=by
 unfold ay at a;rw[Option.map_eq_some_iff]at a
 grind
theorem ya{n:List (Int×Int)}(b:(n.map Prod.fst).Nodup){c:Int}(d:c∈n.map Prod.snd):∃x,ay n x=some c:=by
 obtain⟨e,a,rfl⟩:=List.mem_map.1 d;refine⟨e.1,?_⟩;induction n with
 |nil=>cases a
 |cons q r f=>
  rw[fP];rw[List.map_cons,List.nodup_cons]at b;rcases List.mem_cons.1 a with rfl|a
  .rw[if_pos rfl]
  .grind
theorem qH{n:List (Int×Int)}{b y:Int}:y∈kR n b↔∃k,ay n y=some k/\k<=b:=by
 unfold kR;rw[List.mem_filter,nw,<-tG];constructor
 .rintro⟨a,c⟩;obtain⟨k,d⟩:=Option.isSome_iff_exists.1 a
  grind
 .grind
def KL{n:List (Int×Int)}(c:(n.map Prod.fst).Nodup)(b:Int):(kR n b).Pairwise (·<·):=by
 unfold kR;refine List.Pairwise.filter _ ?_;have d:=oF (n.map Prod.fst);have a:(dh (n.map Prod.fst)).Nodup:=(mb _).nodup_iff.2 c;refine(d.and a).imp λ{e b} f=>?_;omega
def jw(x:Int):Int:=if 0<x then x else 0
def gR(a b:Int):Int:=if b<a then b else a
theorem DZ{n:List (Int×Int)}{e g w f d:Int}(s:ay n g=some f)(p:ay n w=some d):∀(b:Int) (r:bH),(b::r).Pairwise (·<·)->(e<=b\/e∈r)->(f<=b\/f∈r)->(d<=b\/d∈r)->
  gB (gh n e (b::r)) g w=jw (gR f e-(if gR d e<b then b else gR d e))
 |b,[],_,m,k,l=>by
  simp only[List.not_mem_nil,or_false]at m;show(0:Int)=_;unfold jw gR
  repeat' split
  all_goals omega
 |b,a::r,u,m,k,l=>by
  have j:=List.pairwise_cons.1 u;have y:=j.1 a List.mem_cons_self;have z:=(List.pairwise_cons.1 j.2).1
  have q:∀c:Int,(c<=b\/c∈a::r)->c<=b\/a<=c:=λc i=>i.imp id λh=>by
   rcases List.mem_cons.1 h with rfl|h
   .omega
   .grind
  have next:∀c:Int,(c<=b\/c∈a::r)->c<=a\/c∈r:=λc i=>by
   rcases i with h|h
   .left;omega
   .grind
  have t:=DZ s p a r j.2 (next e m) (next f k) (next d l);have C:=q f k;have A:=q d l;unfold gh;by_cases o:e<=b
  .rw[if_pos o];show(0:Int)=_;unfold jw gR
   repeat' split
   all_goals omega
  .rw[if_neg o];have v:jg g w (bI.mk (kR n b) ((if e<a then e else a)-b))=if d<=b/\b<f then(if e<a then e else a)-b else 0:=by
    unfold jg;have B:w∈kR n b↔d<=b:=by rw[qH,p];simp
    have x:g∈kR n b↔f<=b:=by rw[qH,s];simp
    grind
   show(jg g w _+gB (gh n e (a::r)) g w)=_;rw[v,t];unfold jw gR
   repeat' split
   all_goals omega
theorem D0{n:List (Int×Int)}{e:Int}:∀(b:Int) (r:bH),(b::r).Pairwise (·<·)->(e<=b\/e∈r)->hg (gh n e (b::r))=jw (e-b)
 |b,[],_,he=>by
  simp only[List.not_mem_nil,or_false]at he;show(0:Int)=_;unfold jw;split<;>omega
 |b,a::r,g,he=>by
  have c:=List.pairwise_cons.1 g;have i:=c.1 a List.mem_cons_self;have j:=(List.pairwise_cons.1 c.2).1;have h:e<=a\/e∈r:=by grind
  have f:=D0 (n:=n) a r c.2 h;unfold gh;by_cases d:e<=b
  .rw[if_pos d];show(0:Int)=_;unfold jw;split<;>omega
  .rw[if_neg d];show(((if e<a then e else a)-b)+hg (gh n e (a::r)))=_;rw[f];unfold jw
   repeat' split
   all_goals omega
theorem zm{n:List (Int×Int)}{e:Int}:∀(l:bH),l.Pairwise (·<·)->∀c∈gh n e l,∃b∈l,b<e/\c.aP=kR n b/\1<=c.Value/\c.Value<=e-b
 |[],_,c,a=>by cases a
 |[_],_,c,a=>by cases a
 |b::d::r,g,c,a=>by
  have f:=List.pairwise_cons.1 g;have i:=f.1 d List.mem_cons_self;unfold gh at a;split at a
  .cases a
  .rcases List.mem_cons.1 a with rfl|a
   .grind
   .obtain⟨k,j,h⟩:=zm (d::r) f.2 c a
    grind
theorem D1{n:List (Int×Int)}{e:Int}:∀(l:bH),(gh n e l).length<=l.length
 |[]=>Nat.le_refl _
 |[_]=>Nat.zero_le _
 |b::a::r=>by
  unfold gh;split
  .grind
  .have:=D1 (n:=n) (e:=e) (a::r)
   grind
end
section
def D2{α β:Type}{L:List α}(g:α->α){B:Int->α->(List α->Option β)->List α->Option β}{K:List α->Option β}
  (a:∀(p:List α) x r bf,x∈L->(p++x::r).length<=L.length->B (p.length:Int) x bf (p.map g++x::r)=bf (p.map g++g x::r)) :
  ∀(l p:List α),p++l=L->bZ l p.length B K (p.map g++l)=K (L.map g)
 |[],p,h=>by
  rw[List.append_nil]at h;subst h
  show K _=_;rw[List.append_nil]
 |x::r,p,h=>by
  show B (p.length:Int) x (λb=>bZ r (p.length+1) B K b) (p.map g++x::r)=_;rw[a p x r _ (by rw[<-h];simp) (by rw[<-h];exact Nat.le_refl _)];have:=D2 (K:=K) g a r (p++[x]) (by rw[<-h];simp);rw[List.length_append,List.map_append,List.append_assoc]at this;exact this
def yH{α β:Type}(q:α->Bool){B:Int->α->(List α->Option β)->List α->Option β}{K:List α->Option β}
  (b:∀j x bf s,s.length<=200000->B j x bf s=bf (if q x then s++[x]else s)):∀(l:List α) (j:Nat) (s:List α),s.length+l.length<=200000->bZ l j B K s=K (s++l.filter q)
 |[],j,s,h=>by
  show K _=_;rw[List.filter_nil,List.append_nil]
 |x::r,j,s,h=>by
  rw[List.length_cons]at h;show B (j:Int) x (λs=>bZ r (j+1) B K s) s=_;rw[b _ _ _ _ (by omega)];by_cases a:q x=true
  .rw[if_pos a,yH q b r (j+1) _ (by rw[List.length_append,List.length_singleton];omega),List.filter_cons,if_pos a,List.append_assoc];rfl
  .rw[if_neg a,yH q b r (j+1) _ (by omega),List.filter_cons,if_neg a]
def gb(l:mR)(a:bm):bm:=bm.mk a.Hop (a.b6-gB l a.Hop.aO a.Hop.aJ)
theorem yI{av:kZ}(i:iF av){t:Int}{n:List (Int×Int)}(d:pf av t n):∃r,gu n=0::r/\(gu n).Pairwise (·<·):=by
 have e:(gu n).Pairwise (·<·):=C1 (oF _);have a:(0:Int)∈gu n:=mh.2 (nw.2 (DY d.bz.zero));cases c:gu n with
 |nil=>rw[c]at a;cases a
 |cons b r=>
  rw[c]at a e;have h:b∈n.map Prod.snd:=by
   have:b∈gu n:=by rw[c];exact List.mem_cons_self
   exact nw.1 (mh.1 this)
  obtain⟨j,g⟩:=ya d.bz.nd h;have k:=(d.bz.wa j b g).jo i;rcases List.mem_cons.1 a with f|f
  .grind
  .have:=(List.pairwise_cons.1 e).1 0 f;omega
def zn{n:List (Int×Int)}{x c:Int}(a:ay n x=some c):c∈gu n:=mh.2 (nw.2 (DY a))
def Fu{av:kZ}(f:iF av){t:Int}{n:List (Int×Int)}(a:pf av t n){root e:Int}(l:ay n root=some e){k w i d:Int}(m:ay n k=some i)(c:ay n w=some d):
  gB (gh n e (gu n)) k w=jw (gR i e-gR d e):=by
 obtain⟨o,j,h⟩:=yI f a;have s:=(a.bz.wa _ _ l).jo f;have r:=(a.bz.wa _ _ c).jo f
 have g:∀{p b:Int},ay n p=some b->b<=0\/b∈o:=λ{p b} q=>by
  have:=zn q;rw[j]at this;rcases List.mem_cons.1 this with a|a
  .left;omega
  .exact .inr a
 rw[j]at h ⊢;rw[DZ m c 0 o h (g l) (g m) (g c)];have:¬gR d e<0:=by unfold gR;split<;>omega
 rw[if_neg this]
def D3{n:List (Int×Int)}{e b w:Int}(d:ay n w=none)(l:bH)(f:l.Pairwise (·<·)):gB (gh n e l) b w=0:=by
 unfold gB
 have:∀a∈gh n e l,jg b w a=0:=λa g=>by
  obtain⟨k,_,_,h,_⟩:=zm l f a g;unfold jg;rw[if_neg];rw[h,qH,d];rintro⟨⟨m,i,_⟩,_⟩;cases i
 rw[List.map_congr_left this];generalize gh n e l=j;induction j with
 |nil=>rfl
 |cons x r c=>rw[List.map_cons,List.sum_cons,c];rfl
structure GI(av:List bm)(root x:Int)(p:List bI×List bm):Prop where
 ex:∃n e,pf av x n/\ay n root=some e/\p.1=gh n e (gu n)/\p.2=av.map (gb p.1)
theorem Jw{av:kZ}(u:iF av)(aC:av.length<=1000){root x c:Int}(P:ge av x root c):Ok (p8 av root x) (GI av root x):=by
 unfold p8;refine Ok.aj (Iy u (by omega) x) λa l=>?_;obtain⟨b,v,_⟩:=l.least u (by omega) P;have K:=l.bz.len;have ab:(ay a root).getD 0=b:=by rw[v];rfl
 have eZ:(dh (a.map Prod.snd)).length=a.length:=by rw[Bz,List.length_map]
 have aD:(dh (a.map Prod.fst)).length=a.length:=by rw[Bz,List.length_map]
 refine Ok.dR (decide_eq_true (by omega)) (Ok.dR (decide_eq_true (by omega)) ?_);rw[ab];have ax:(gu a).length<=a.length:=by
  have:∀E:bH,(dZ E).length<=E.length:=by
   intro E;induction E with
   |nil=>exact Nat.le_refl _
   |cons x e J=>
    unfold dZ;split
    .simp
    .grind
  have:=this (dh (a.map Prod.snd));show(dZ (dh (a.map Prod.snd))).length<=_;omega
 have r:∀{x c:Int},ay a x=some c->0<=c/\c<=1100000000:=λ{x c} C=>⟨(l.bz.wa x c C).jo u,by have:=l.bz.le x c C;omega⟩;obtain⟨aE,ae,D⟩:=yI u l;refine au0 (λg=>g=gh a b (gu a)) ?_ ?_
 .rintro g rfl;refine⟨(gh a b (gu a),av.map (gb (gh a b (gu a)))),?_,⟨⟨a,b,l,v,rfl,rfl⟩⟩⟩;refine D2 (gb (gh a b (gu a))) ?_ av [] rfl;intro A i e bf N T;have H:bq (A.map (gb (gh a b (gu a)))++i::e) (A.length:Int)=some i:=cf (by rw[List.getElem?_append_right (by simp)];simp)
  have X:∀d,e3 (A.map (gb (gh a b (gu a)))++i::e) (A.length:Int) d=some (A.map (gb (gh a b (gu a)))++d::e):=λd=>by
   unfold e3;rw[if_pos ⟨by omega,by simp;omega⟩,Int.toNat_natCast,List.set_append_right _ _ (by simp)];simp
  unfold jn;rw[H];simp only[aU];obtain⟨az,ao⟩:=u i N;cases z:ay a i.Hop.aJ with
  |none=>
   simp only[Option.isSome_none,Bool.and_false,cond_false];have:gb (gh a b (gu a)) i=i:=by unfold gb;rw[D3 z _ D,Int.sub_zero]
   rw[this]
  |some q=>
   have y:∃j,ay a i.Hop.aO=some j:=by
    have M:=l.fix i N;rw[nv z]at M;have:=(r z).2;cases C:ay a i.Hop.aO with
    |none=>
     have:eA a i.Hop.aO=2305843009213693951:=by unfold eA;rw[C];rfl
     omega
    |some k=>exact⟨k,rfl⟩
   obtain⟨j,y⟩:=y;obtain⟨aG,aw⟩:=r y;obtain⟨aR,ar⟩:=r z;obtain⟨U,af⟩:=r v;rw[y];simp only[Option.isSome_some,Bool.and_self,cond_true,Option.getD_some];rw[X,aU];have:∀B:Int,-1100000000<=B->B<=1100000000->an B=B:=λB M am=>dO (by omega) (by omega);have V:an ((if b<j then b else j)-(if b<q then b else q))=gR j b-gR q b:=by
    unfold gR
    grind
   rw[V];have Y:(if gR j b-gR q b>0 then gR j b-gR q b else 0)=jw (gR j b-gR q b):=rfl;rw[Y];have h:0<=jw (gR j b-gR q b)/\jw (gR j b-gR q b)<=1100000000:=by grind
   rw[dO (by omega) (by omega)];unfold gb;rw[Fu u l v y z]
 .intro o R
  have ag:∀{F:Type} (o:mR->Option F) (w:Int->Int->(mR->Option F)->mR->Option F),
    (∀(pre:bH) d e bf (g:mR),gu a=pre++d::e->g.length<=100000->(b<=d\/b∈e)->w (pre.length:Int) d bf g=if b<=d then o g else match e with|[]=>none|c::_=>bf (g++[bI.mk (kR a d) ((if b<c then b else c)-d)]))->
    ∀(n pre:bH) (g:mR),gu a=pre++n->g.length+n.length<=100000->(∀d e,n=d::e->b<=d\/b∈e)->(∀d e,n=d::e->∀m∈e,d<m)->n.Pairwise (·<·)->
    bZ n pre.length w (λG=>o G) g=o (g++gh a b n):=by
   intro F o w S n;induction n with
   |nil=>intro pre g _ _ _ _ _;show o g=_;rw[show gh a b []=[]from rfl,List.append_nil]
   |cons d e J=>
    intro pre g t K I aq Q;rw[List.length_cons]at K;show w (pre.length:Int) d (λs=>bZ e (pre.length+1) w (λG=>o G) s) g=_;rw[S pre d e _ g t (by omega) (I d e rfl)];by_cases h:b<=d
    .rw[if_pos h];cases e with
     |nil=>rw[show gh a b [d]=[]from rfl,List.append_nil]
     |cons c e=>rw[show gh a b (d::c::e)=[]from if_pos h,List.append_nil]
    .rw[if_neg h];cases e with
     |nil=>rcases I d [] rfl with f|f;exact absurd f h;cases f
     |cons c e=>
      have L:=List.pairwise_cons.1 Q
      have:=J (pre++[d]) (g++[bI.mk (kR a d) ((if b<c then b else c)-d)]) (by rw[t];simp) (by rw[List.length_append,List.length_singleton];omega) (λO ai f=>by
       cases f;rcases I d (c::e) rfl with f|f
       .omega
       .rcases List.mem_cons.1 f with rfl|f
        .omega
        .exact .inr f) (λO ai f m p=>by cases f;exact(List.pairwise_cons.1 L.2).1 m p) L.2
      rw[List.length_append]at this;rw[show gh a b (d::c::e)=bI.mk (kR a d) ((if b<c then b else c)-d)::gh a b (c::e)from if_neg h];rw[List.append_assoc]at this;exact this
  obtain⟨U,af⟩:=r v;have W:=zn v;rw[ae]at W;refine Eq.mpr (congrArg (λak=>Ok ak _) (ag o _ ?_ (gu a) [] [] rfl (by rw[List.length_nil];omega) (λd e f=>?_) (λd e f=>?_) D)) (R _ rfl)
  rotate_left
  .grind
  .rw[f]at D;exact(List.pairwise_cons.1 D).1
  .intro pre d e bf g t aB Z;have aI:0<=d/\d<=1100000000:=by
    have:d∈gu a:=by rw[t];simp
    obtain⟨m,p⟩:=ya l.bz.nd (nw.1 (mh.1 this));exact r p
   by_cases h:b<=d
   .rw[if_pos h,decide_eq_true h,cond_true]
   .rw[if_neg h,decide_eq_false h,cond_false];cases e with
    |nil=>rcases Z with f|f;exact absurd f h;cases f
    |cons c e=>
     have T:pre.length<=100000:=by
      have:=congrArg List.length t;rw[List.length_append]at this;omega
     have aF:0<=c/\c<=1100000000:=by
      have:c∈gu a:=by rw[t];simp
      obtain⟨m,p⟩:=ya l.bz.nd (nw.1 (mh.1 this));exact r p
     have H:bq (gu a) (an ((pre.length:Int)+(1:Int)))=some c:=by
      rw[dO (by omega) (by omega),show(pre.length:Int)+1=((pre.length+1:Nat):Int)by omega];refine cf ?_;rw[t,List.getElem?_append_right (by omega),show pre.length+1-pre.length=1 by omega];rfl
     have aa:bq (dZ (dh (a.map Prod.snd))) (an ((pre.length:Int)+(1:Int)))=some c:=H;rw[aa,aU,PU (decide_eq_true (by omega)),yH (λm=>decide ((ay a m).getD 0<=d)) (λaM m bf s aA=>?_) _ _ _ (by rw[List.length_nil];omega)]
     .rw[iB (by simp;omega),aU,dO (by split<;>omega) (by split<;>omega)];rfl
     .unfold jn;by_cases p:(ay a m).getD 0<=d
      .simp only[decide_eq_true p,cond_true,iB (show s.length+[m].length<=549755813888 by simp;omega),aU];rfl
      .simp only[decide_eq_false p,cond_false];rfl
end
section
theorem P0{t:aK}(f:cQ t){g:jP}(e:um t g)(a:Int):∃l,lE g.gZ a=some l/\∀x,ay l x=dy t a x:=by
 by_cases b:a∈ids t
 .obtain⟨l,i,_,h,_⟩:=GG e.fw b;refine⟨l,i,λx=>?_⟩;rw[h];by_cases c:x∈ids t
  .rw[nW f b c]
  .rw[nT (λd=>c d.2.2),L5 f b c]
 .refine⟨[],EL ?_,λx=>by rw[nT (λd=>b d.2.1)];rfl⟩;have:=e.fw.keys a
  grind
def C2(t:aK)(a b:Int):sF t a b=some (jZ t a b):=by
 unfold sF m6;rw[ti,aU];by_cases c:fH t=0
 .have d:=iL.1 c;obtain⟨j,i,e⟩:=EM d;obtain⟨k,g,f⟩:=P0 d e a;rw[decide_eq_true c,aU,i,aU,g,aU,f];rfl
 .rw[decide_eq_false c];unfold jZ;rw[nT λh=>c h.1];rfl
def P3{g:aK}(e:cQ g){a x m:Int}(h:ez (eM g) a x m):∀{t k:Int},ge (e6 g) t x k->ge (e6 g) t a (m+k):=by
 induction h with
 |nil=>intro t k c;rw[Int.zero_add];exact c
 |@snoc x b m f _ hk d=>
  intro t k c;have:=d (ge.cons (a:=bm.mk (aQ.mk x b) f) ((o2 e).1 hk) c);rw[Int.add_assoc];exact this
def Of{g:aK}(b:cQ g){t x c:Int}(i:ge (e6 g) t x c):∃k,dst (eM g) x t=some k/\k<=c:=by
 induction i with
 |nil=>exact⟨0,Ep (jl b) _,Int.le_refl _⟩
 |@cons a c h _ d=>
  obtain⟨k,j,l⟩:=d;obtain⟨f,e,m⟩:=CA (jl b) ((o2 b).2 h) j;exact⟨f,e,by omega⟩
def L9{L L':kZ}(k:∀a∈L,∃b∈L',b.Hop=a.Hop/\b.b6<=a.b6){t x c:Int}(h:ge L t x c):∃d,d<=c/\ge L' t x d:=by
 induction h with
 |nil=>exact⟨0,Int.le_refl _,.nil⟩
 |@cons a c i _ f=>
  obtain⟨d,m,e⟩:=f;obtain⟨b,g,j,l⟩:=k a i;rw[<-j]at e ⊢;exact⟨b.b6+d,by omega,.cons g e⟩
structure j2(g:aK)(root:Int)(rs:List Int)(c:bI):Prop where
 val:1<=c.Value/\c.Value<=24000
 iu:c.aP.Pairwise (·<·)
 jr:root∉c.aP
 ids:∀y∈c.aP,y∈ids g
 hit:∃x∈rs,x∈c.aP
def Jx{l:mR}(b:∀c∈l,1<=c.Value)(a w:Int):0<=gB l a w:=by
 unfold gB;induction l with
 |nil=>exact Int.le_refl _
 |cons c r d=>
  rw[List.map_cons,List.sum_cons];have g:=d λc e=>b c (List.mem_cons_of_mem _ e);have f:=b c List.mem_cons_self;have:0<=jg a w c:=by unfold jg;split<;>omega
  omega
def EP(l b:mR)(a w:Int):gB (l++b) a w=gB l a w+gB b a w:=by unfold gB;rw[List.map_append,List.sum_append]
def Ma(l a:mR):hg (l++a)=hg l+hg a:=by unfold hg;rw[List.map_append,List.sum_append]
theorem KM(l b:mR)(a:bm):gb b (gb l a)=gb (l++b) a:=by
 unfold gb;rw[EP]
 grind
structure HG(g:aK)(av:List bm)(root x:Int)(p:List bI×List bm):Prop where
 cut:∀c∈p.1,j2 g root [x] c
 fF:∀a∈av,gB p.1 a.Hop.aO a.Hop.aJ<=a.b6
 len:p.1.length<=24
 val:ge av x root (hg p.1)/\∀c,ge av x root c->hg p.1<=c
 res:p.2=av.map (gb p.1)
theorem JP{g:aK}(F:cQ g){av:kZ}{root x u:Int}{p:mR×kZ}(h:iF av)(X:av.length<=1000)(U:∀a∈av,a.Hop.aO∈ids g/\a.Hop.aJ∈ids g)(C:x∈ids g)(G:ge av x root u)(k:u<=24000)(l:GI av root x p):HG g av root x p:=by
 obtain⟨n,e,c,m,r,D⟩:=l.ex;obtain⟨P,N,j⟩:=yI h c;have aa:=(c.bz.wa _ _ m).jo h;have ab:e<=u:=by
  obtain⟨i,w,v⟩:=c.least h (by omega) G
  grind
 have K:∀b∈gu n,0<=b:=λb E=>by
  obtain⟨f,d⟩:=ya c.bz.nd (nw.1 (mh.1 E));exact(c.bz.wa _ _ d).jo h
 have M:∀f i,ay n f=some i->f∈ids g:=λf i d=>by
  rcases c.bz.key f (tG.1 (by rw[d];rfl))with rfl|⟨a,Z,rfl⟩
  .exact C
  .grind
 have L:hg p.1=e:=by
  have B:=zn m;rw[r];rw[N]at j B ⊢;rw[D0 0 P j (by rcases List.mem_cons.1 B with l|l;left;omega;exact .inr l)];unfold jw;split<;>omega
 refine⟨λA k=>?_,λa y=>?_,?_,?_,D⟩
 .rw[r]at k;obtain⟨b,I,S,o,J,Y⟩:=zm _ j A k;have:=K b I;refine⟨⟨J,by omega⟩,by rw[o];exact KL c.bz.nd b,?_,λf d=>?_,x,by simp,?_⟩
  .rw[o,qH,m]
   grind
  .rw[o,qH]at d
   grind
  .rw[o,qH];exact⟨0,c.bz.zero,this⟩
 .rw[r];obtain⟨H,Q⟩:=h a y;have z:=c.fix a y;cases q:ay n a.Hop.aJ with
  |none=>rw[D3 q _ j];exact H
  |some V=>
   rw[nv q]at z;cases t:ay n a.Hop.aO with
   |none=>
    have:eA n a.Hop.aO=2305843009213693951:=by unfold eA;rw[t];rfl
    have:=c.bz.le _ _ q;have:=c.bz.len;omega
   |some W=>
    rw[nv t]at z;rw[Fu h c m t q];unfold jw gR
    repeat' split
    all_goals omega
 .rw[r];have w:=D1 (n:=n) (e:=e) (gu n);have v:(gu n).length<=n.length:=by
   have s:(gu n).Nodup:=j.imp λ{a b} l=>by omega
   have:=qt s (b:=n.map Prod.snd) λf d=>nw.1 (mh.1 d)
   rwa [List.length_map]at this
  have s:=qt c.bz.nd (b:=ids g) λf d=>by
   obtain⟨i,O⟩:=Option.isSome_iff_exists.1 (tG.2 d);exact M f i O
  rw[List.length_map]at s;have T:=F.jr;have R:(ids g).length=g.aP.length:=by simp[ids]
  omega
 .rw[L];refine⟨c.bz.wa _ _ m,λA k=>?_⟩;obtain⟨i,w,v⟩:=c.least h (by omega) k
  grind
end
section
def ER{a b:kZ}(g:∀x∈a,x∈b){t x c:Int}(e:ge a t x c):ge b t x c:=by
 induction e with
 |nil=>exact .nil
 |cons f _ d=>exact .cons (g _ f) d
def P4{g:aK}(c:cQ g){a b k:Int}(d:dst (eM g) a b=some k):ge (e6 g) b a k:=by
 have:=P3 c (g1.1 d).1 (t:=b) (k:=0) .nil
 rwa [Int.add_zero]at this
end
section
def oV{α σ β:Type}{B:Int->α->(σ->Option β)->σ->Option β}{K:σ->Option β}(p:α->Bool)(a:Option β):∀(l:List α) (j:Nat) (s:σ),(∀j x bf s,x∈l->B j x bf s=bif p x then a else bf s)->bZ l j B K s=bif l.any p then a else K s
 |[],_,_,_=>rfl
 |x::r,j,s,b=>by
  show B (j:Int) x (λs=>bZ r (j+1) B K s) s=_;rw[b _ _ _ _ List.mem_cons_self,oV p a r (j+1) s λj x bf s c=>b j x bf s (List.mem_cons_of_mem _ c),List.any_cons];cases p x<;>rfl
def Qd(l:bH)(f:Int->fz)(p:Int->Bool)(d:∀x,f x=some (p x)):rX l f=some (l.any p):=by
 unfold rX vQ;obtain⟨k,i,b⟩:=tD (B:=λ(g:Int) (h:Int) (c:Unit->fe) (a:Unit)=>match a with|()=>aj (f h) λ(e:Bool)=>bif e then some (g:Int)else c ()) (K:=λ(a:Unit)=>match a with|()=>some (-1:Int)) p (λj x bf m=>by simp only[d,aU]) (λ_=>rfl) l 0 ();simp only[i,aU,b]
def ES{l:bH}(a:mW l=true):l.Pairwise (·<·):=(qm (λc d e f b=>by simp only[decide_eq_true_eq]at *;omega) a).imp λa=>by simpa using a
def rQ(g:aK)(root:Int)(rs:bH)(c:bI):Bool:=
 decide (c.Value<1)||(decide (24000<c.Value)||(!mW c.aP||(decide (root∈c.aP)||(c.aP.any (λb=>!eX g b)||!rs.any (λa=>decide (a∈c.aP))))))
variable {g:aK}{root:Int}{rs:bH}
def D4{c:bI}:rQ g root rs c=false↔j2 g root rs c:=by
 unfold rQ;simp only[Bool.or_eq_false_iff,decide_eq_false_iff_not,Bool.not_eq_false',List.any_eq_true,decide_eq_true_eq,List.any_eq_false,Bool.not_eq_true',Bool.not_eq_false];constructor
 .rintro⟨j,h,e,a,b,i⟩;refine⟨⟨by omega,by omega⟩,ES e,a,λf d=>?_,i⟩;have:=b f d;rw[uA]at this;simpa using this
 .rintro⟨j,h,e,a,b⟩;refine⟨by omega,by omega,DX h,e,λf d=>?_,b⟩;rw[uA];simpa using a f d
def j3(g:aK)(root:Int)(rs:bH)(l:mR):Prop:=l.length<=200/\(∀b∈l,j2 g root rs b)/\∀a∈e6 g,gB l a.Hop.aO a.Hop.aJ<=a.b6
theorem yb{β:Type}(f:bI->Int){K:Int->Option β}:∀(l:mR) (j:Nat) (s:Int) {B:Int->bI->(Int->Option β)->Int->Option β},(∀j x bf s,x∈l->B j x bf s=bf (an (s+f x))\/(f x=0/\B j x bf s=bf s))->(∀c∈l,0<=f c/\f c<=24000)->0<=s->s+24000*(l.length:Int)<=1000000000->
  bZ l j B K s=K (s+(l.map f).sum)
 |[],j,s,B,_,_,_,_=>by show K s=_;simp
 |x::r,j,s,B,b,a,q,h1=>by
  rw[List.length_cons]at h1
  push_cast at h1
  have o:=a x List.mem_cons_self;show B (j:Int) x (λs=>bZ r (j+1) B K s) s=_;have e:=λh m k=>yb f (K:=K) r (j+1) h (B:=B) (λj n bf s g=>b j n bf s (List.mem_cons_of_mem _ g)) (λc i=>a c (List.mem_cons_of_mem _ i)) m k;rw[List.map_cons,List.sum_cons];rcases b (j:Int) x (λs=>bZ r (j+1) B K s) s List.mem_cons_self with d|⟨p,d⟩
  .rw[d,dO (by omega) (by omega),e (s+f x) (by omega) (by omega)];congr 1;omega
  .grind
variable {l:mR}
theorem KN(j:cQ g)(w:∀c∈l,c.aP.length<=1000000):Ok (ss g root rs l) (λb=>b=true↔j3 g root rs l):=by
 obtain⟨u,y,q⟩:=Ag j;have z:=j.jr;unfold ss;by_cases A:200<l.length
 .rw[decide_eq_true (by omega),cond_true];exact⟨false,rfl,λd=>(by cases d),λd=>by have:=d.1;omega⟩
 rw[decide_eq_false (by omega),cond_false];rw[oV (rQ g root rs) (some false) l 0 () (λm c bf s e=>?_)]
 rotate_left
 .unfold rQ jn;by_cases f:c.Value<1
  .simp[f]
  rw[decide_eq_false f];by_cases n:24000<c.Value
  .simp[n]
  rw[decide_eq_false n,zK _ (w c e)];simp only[aU,cond_false,Bool.false_or];cases k:mW c.aP with
  |false=>simp[mW]at k;simp[k]
  |true=>
   have x:gd (λa b=>decide (a<b)) c.aP=true:=k;rw[x,uz];simp only[aU,Bool.not_true,cond_false,Bool.false_or];by_cases o:root∈c.aP
   .simp[o]
   rw[decide_eq_false o];simp only[cond_false,Bool.false_or];rw[oV (λi=>!eX g i) (some false) c.aP 0 () (λm i bf s _=>by rw[y4 _ _ (by omega),decide_eq_true (iL.2 j),aU,Bool.true_and])];cases c.aP.any λi=>!eX g i with
   |true=>rfl
   |false=>
    simp only[cond_false,Bool.false_or];rw[Qd rs _ (λv=>decide (v∈c.aP)) (λv=>by unfold v7;rw[uz,aU]),aU]
 cases p:l.any (rQ g root rs)with
 |true=>
  refine⟨false,rfl,λd=>(by cases d),λd=>?_⟩;obtain⟨c,e,f⟩:=List.any_eq_true.1 p;rw[D4.2 (d.2.1 c e)]at f;cases f
 |false=>
  have r:∀c∈l,j2 g root rs c:=λc e=>D4.1 (by simpa using List.any_eq_false.1 p c e);simp only[cond_false,y,aU];rw[oV (λa:bm=>decide (a.b6<gB l a.Hop.aO a.Hop.aJ)) (some false) u 0 () (λm a bf s h=>?_)]
  rotate_left
  .rw[yb (jg a.Hop.aO a.Hop.aJ) l 0 0 (λm c bf s e=>?_) (λc e=>?_) (by omega) (by omega)]
   .rw[Int.zero_add];rfl
   .unfold jn jg;simp only[uz,aU]
    grind
   .have:=(r c e).val;unfold jg;split<;>omega
  cases t:u.any λa:bm=>decide (a.b6<gB l a.Hop.aO a.Hop.aJ)with
  |true=>
   refine⟨false,rfl,λd=>(by cases d),λd=>?_⟩;obtain⟨a,h,f⟩:=List.any_eq_true.1 t;have:=d.2.2 a (q.mem_iff.1 h);have f:=of_decide_eq_true f;omega
  |false=>
   refine⟨true,rfl,λ_=>⟨by omega,r,λa h=>?_⟩,λ_=>rfl⟩;have:=List.any_eq_false.1 t a (q.mem_iff.2 h);simp only[decide_eq_true_eq]at this;omega
def IN(e:cQ g)(k:root∈ids g)(n:rs.Pairwise (·<·))(f:∀x∈rs,x∈ids g)(h:rs.length<=100000)(i:∀c∈l,c.aP.length<=1000000):
  Ok (lD g root rs l) (λr=>(j3 g root rs l->r=(hg l,0))/\(¬j3 g root rs l->r=(0,1))):=by
 unfold lD;rw[kX _ _ _ h,aU,lP e k n f,decide_eq_true rfl];simp only[Bool.not_true,cond_false];refine Ok.aj (KN e i) λm d=>?_;cases m with
 |false=>exact⟨_,rfl,λb=>(by have:=d.2 b;cases this),λ_=>rfl⟩
 |true=>
  have a:=d.1 rfl;simp only[Bool.not_true,cond_false];rw[yb (λc=>c.Value) l 0 0 (λo c bf s _=>.inl rfl) (λc j=>by have:=(a.2.1 c j).val;omega) (by omega) (by have:=a.1;omega)];refine⟨_,rfl,λ_=>by rw[Int.zero_add];rfl,λb=>absurd a b⟩
end
end
section
set_option linter.all false
open Go
variable {g:jP}{t:aK}
theorem P5(d:cQ t)(f:um t g)(b:Int):∃l,lE g.nh b=some l/\∀x,ay l x=dy t x b:=by
 by_cases c:b∈ids t
 .obtain⟨l,i,_,h,_⟩:=GG f.pT c;refine⟨l,i,λx=>?_⟩;rw[h,za];by_cases a:x∈ids t
  .rw[nW d a c]
  .rw[nT (λe=>a e.2.1)]
   exact(yC (jl d)).2 λk j=>a (by
    cases j.rev with
    |nil=>exact absurd c a
    |snoc _ hk=>exact(kE d hk).1)
 .refine⟨[],EL ?_,λx=>by rw[nT (λe=>c e.2.2)];rfl⟩;have:=f.pT.keys b
  grind
def KO(t:aK):m6 t=some (decide (fH t=0)):=by unfold m6;rw[ti];rfl
noncomputable def js(t:aK)(b x y:Int):Bool:=match dy t x b,dy t y b with
 |some all,some c=>decide ((gz t x y).1+c=all)
 |_,_=>false
noncomputable def e7(t:aK)(b x:Int):bH:=(mB t x).filter (js t b x)
variable {b x:Int}
def xo(a:dy t x b=none):e7 t b x=[]:=by
 unfold e7;rw[List.filter_eq_nil_iff];intro c _;simp[js,a]
def D5(a:cQ t)(x:Int):(mB t x).length<=24:=Nat.le_trans (List.length_filter_le _ _) (nJ a)
def D6(d:cQ t)(k:um t g){l:List (Int×Int)}(f:∀x,ay l x=dy t x b)(x:Int):r4 g l x=some (e7 t b x):=by
 unfold r4;rw[f];cases a:dy t x b with
 |none=>rw[xo a];rfl
 |some all=>
  obtain⟨_,j,q,_⟩:=iC a;have u:=nB a;simp only[Option.isSome_some,Bool.not_true,cond_false,Option.getD_some];rw[k.row x j];have v:=D5 d x;refine(qC (λs:cL=>js t b x s.dm) (·.dm) (lS t x) 0 [] (λw s bf y p n=>?_) (by simp[lS];omega)).trans ?_
  .have h:=(x8 d).1 p;have r:=nS d h;have o:=(jj.1 h).2;simp only[jn,f];cases e:dy t s.dm b with
   |none=>simp[js,a,e]
   |some c=>
    have:=nB e;rw[show js t b x s.dm=decide (s.fS+c=all)by simp[js,a,e,o]];simp only[Option.isSome_some,Bool.true_and,Option.getD_some];have m:an (s.fS+c)=s.fS+c:=uK (by omega) (by omega);simp only[m];rw[pP n];rfl
  .rw[List.nil_append,lS,List.filter_map,List.map_map];have:((λ(x:cL)=>x.dm)∘λi=>(⟨i,(gz t x i).1⟩:cL))=id:=rfl;rw[this,List.map_id];rfl
def JQ(a:cQ t)(i:b∈ids t){d:bH}(j:uq t b d)(x:Int):sL t d x=some (e7 t b x):=by
 unfold sL;rw[Ah a i j,aU];cases g:dy t x b with
 |none=>rw[xo g];rfl
 |some all=>
  have o:=nB g;simp only[Option.getD_some];rw[decide_eq_false (show ¬all=1073741824 by omega),Bool.false_or];by_cases k:all=0
  .rw[decide_eq_true k,cond_true];have:e7 t b x=[]:=by
    unfold e7;rw[List.filter_eq_nil_iff];intro f h;have:=(xN a ((xM a).1 h)).1;cases e:dy t f b with
    |none=>simp[js,g,e]
    |some c=>have:=nB e;simp[js,g,e];omega
   rw[this]
  .rw[decide_eq_false k,cond_false,K9 a,aU];have p:=D5 a x;refine(qC (js t b x) id (mB t x) 0 [] (λq f bf r h m=>?_) (by simp;omega)).trans (by rw[List.nil_append,List.map_id];rfl);have n:=xN a ((xM a).1 h);simp only[jn,BO,aU,Ah a i j];cases e:dy t f b with
   |none=>simp[js,g,e]
   |some c=>
    have:=nB e;simp only[Option.getD_some];have l:an ((gz t x f).1+c)=(gz t x f).1+c:=uK (by omega) (by omega);rw[decide_eq_true (show c<1073741824 by omega),cond_true];simp only[l];rw[pP m,show js t b x f=decide ((gz t x f).1+c=all)by simp[js,g,e]];rfl
theorem JR{α:Type}(t:aK)(a b:Int)(k:Bool->Option α):(jn k λJ=>aj (m6 t) λ(c:Bool)=>(bif !c then J true else J (decide (a=b))))=k (!decide (fH t=0)||decide (a=b)):=by
 simp only[jn];rw[KO,aU]
 grind
variable {a:Int}
def D7(c:¬(fH t=0/\a∈ids t/\b∈ids t)):e7 t b a=[]:=xo (nT c)
def qI(f:cQ t){y:Int}:y∈e7 t b x↔∃w m k,eM t x y=some w/\dy t y b=some m/\dy t x b=some k/\w+m=k:=by
 unfold e7;rw[List.mem_filter,xM f];constructor
 .rintro⟨c,a⟩;unfold js at a;split at a
  .rename_i i j l n;exact⟨_,j,i,jj.2 ⟨c,rfl⟩,n,l,of_decide_eq_true a⟩
  .cases a
 .rintro⟨w,m,k,c,a,g,d⟩;obtain⟨e,h⟩:=jj.1 c;exact⟨e,by simp[js,a,g,h,d]⟩
theorem tq(a:cQ t){y:Int}(c:y∈e7 t b x):∃m k,dy t y b=some m/\dy t x b=some k/\m<k:=by
 obtain⟨h,m,k,d,e,g,f⟩:=(qI a).1 c;have:=(nS a d).1
 grind
def KP{y:Int}(a:cQ t)(c:y∈e7 t b x):y∈ids t:=by
 obtain⟨e,k,d,_⟩:=tq a c;exact(iC d).2.1
def CH(a:cQ t)(b x:Int):(e7 t b x).Pairwise (·<·):=(Eh a x).sublist List.filter_sublist
variable {k:Int}
def zo(c:dy t x b=some k)(g:x≠b):∃y,y∈e7 t b x:=by
 obtain⟨a,l,f,h⟩:=iC c;obtain⟨y,j,i,d,e,m⟩:=Dx h g;exact⟨y,(qI a).2 ⟨j,i,k,d,by rw[nW a (kE a d).2 f];exact e,c,by omega⟩⟩
noncomputable def nM(t:aK)(b x y:Int):Bool:=match dy t y b,dy t x b with
 |some m,some k=>decide (m<k)
 |_,_=>false
noncomputable def hQ(t:aK)(b x:Int):Nat:=((ids t).filter (nM t b x)).length
theorem nN(a:cQ t){y:Int}(c:y∈e7 t b x):hQ t b y<hQ t b x:=by
 obtain⟨i,k,d,e,g⟩:=tq a c;refine(BB λj h f=>?_).2 y (KP a c) (by simp[nM,d,e,g]) (by simp[nM,d]);unfold nM at f ⊢
 grind
def P6(b x:Int):hQ t b x<=(ids t).length:=List.length_filter_le _ _
def rj(g:cQ t)(d:b∈ids t):hQ t b x<(ids t).length:=by
 cases a:dy t x b with
 |none=>
  have:(ids t).filter (nM t b x)=[]:=by
   rw[List.filter_eq_nil_iff];intro f _;cases e:dy t f b<;>simp[nM,a,e]
  unfold hQ;rw[this];exact List.length_pos_of_mem d
 |some k=>
  have c:=(iC a).2.1;have:=(BB (p:=λ_=>true) (q:=nM t b x) (l:=ids t) λ_ _ _=>rfl).2 x c rfl (by simp[nM,a]);rw[List.filter_eq_self.2 λ_ _=>rfl]at this;exact this
def hx(f:Int->bH)(b:Int):Nat->Int->bH->bH
 |0,_,_=>[]
 |n+1,x,a=>if x=b then a else match f x with
  |[]=>[]
  |y::_=>hx f b n y (a++[y])
noncomputable def e4(t:aK)(a b:Int):bH:=hx (e7 t b) b 30 a []
def uB(b:Int){f:Int->bH}{n:Nat}(e:f a=[])(c:a≠b)(d:bH):hx f b n a d=[]:=by
 cases n with
 |zero=>rfl
 |succ n=>simp[hx,c,e]
def ys(d:¬(fH t=0/\a∈ids t/\b∈ids t)):e4 t a b=[]:=by
 by_cases c:a=b
 .simp[e4,hx,c]
 .exact uB b (D7 d) c []
def CI(t:aK)(a b:Int):sx t a b=some (e4 t a b):=by
 unfold sx;refine(JR t a b _).trans ?_;by_cases k:fH t=0
 .have d:=iL.1 k;by_cases p:a=b
  .subst p;simp[e4,hx]
  .obtain⟨g,D,n⟩:=EM d;obtain⟨F,v,u⟩:=P5 d n b;rw[decide_eq_true k,decide_eq_false p];simp only[Bool.not_true,Bool.or_self,cond_false];rw[D,aU,v,aU];refine Ok.eq ?_;by_cases h:b∈ids t
   .have E:=nJ d;refine au2 (λs=>s.1.length<=30/\∃c,hQ t b s.2<c/\c+s.1.length<=30/\hx (e7 t b) b c s.2 s.1=e4 t a b) (λs=>hQ t b s.2) (s:=([],a)) ⟨by simp,30,by show hQ t b a<30;have:=rj d (x:=a) h;omega,by simp,rfl⟩ (by have:=rj d (x:=a) h;simp only;omega) ?_;rintro⟨j,x⟩ bf ⟨z,c,A,B,l⟩ o;simp only at z A B l o ⊢;refine Ok.cs (λm=>?_) λm=>.s ?_
    .have i:x≠b:=by simpa using m
     rw[D6 d n u,aU];cases e:e7 t b x with
     |nil=>exact .s (by rw[<-l,uB b e i])
     |cons y r=>
      have C:=nN d (b:=b) (x:=x) (y:=y) (by rw[e];simp);obtain⟨c,rfl⟩:∃q,c=q+1:=⟨c-1,by omega⟩;simp only[List.length_cons];rw[decide_eq_false (by omega),cond_false];simp only[bq];rw[if_pos (by decide)];simp only[Int.toNat_zero,List.getElem?_cons_zero,aU,pP (show j.length<1000000 by omega)];rw[List.length_append];simp only[List.length_cons,List.length_nil];have w:an (((j.length+(0+1):Nat):Int)-1)=(j.length:Int):=by rw[uK (by omega) (by omega)];omega
      rw[w,if_pos (by omega)];simp only[Int.toNat_natCast];rw[List.getElem?_append_right (by omega)];simp only[Nat.sub_self,List.getElem?_cons_zero,aU];refine o (j++[y],y) ⟨by simp;omega,c,by show hQ t b y<c;omega,by simp;omega,?_⟩ C;rw[<-l];simp[hx,i,e]
    .have i:x=b:=by simpa using m
     rw[<-l];obtain⟨c,rfl⟩:∃q,c=q+1:=⟨c-1,by omega⟩;simp[hx,i]
   .have e:e7 t b a=[]:=D7 λf=>h f.2.2;refine au2 (λs=>s=([],a)) (λ_=>0) (s:=([],a)) rfl (by decide) ?_;rintro _ bf rfl o;simp only;rw[decide_eq_false p];simp only[Bool.not_false,cond_true];rw[D6 d n u,aU,e];refine .s ?_;rw[ys λf=>h f.2.2]
 .rw[decide_eq_false k,ys λf=>k f.1];rfl
def Jy(t:aK)(a b:Int):sM t a b=some (e4 t a b):=by
 unfold sM;refine(Eu t a b _).trans ?_;by_cases e:fH t=0/\a∈ids t/\b∈ids t
 .have d:=iL.1 e.1;have f:=e.2.2;obtain⟨z,v,n⟩:=Fo d f;rw[decide_eq_true e];simp only[Bool.not_true,cond_false];rw[v,aU];refine Ok.eq ?_;have w:=nJ d;refine au2 (λs=>s.2.length<=30/\∃c,hQ t b s.1<c/\c+s.2.length<=30/\hx (e7 t b) b c s.1 s.2=e4 t a b) (λs=>hQ t b s.1) (s:=(a,[])) ⟨by simp,30,by show hQ t b a<30;have:=rj d (x:=a) f;omega,by simp,rfl⟩ (by have:=rj d (x:=a) f;simp only;omega) ?_;rintro⟨x,m⟩ bf ⟨o,c,p,q,h⟩ l;simp only at o p q h l ⊢;refine Ok.cs (λi=>?_) λi=>.s ?_
  .have g:x≠b:=by simpa using i
   rw[JQ d f n,aU];cases j:e7 t b x with
   |nil=>exact .s (by rw[<-h,uB b j g])
   |cons y r=>
    have u:=nN d (b:=b) (x:=x) (y:=y) (by rw[j];simp);obtain⟨c,rfl⟩:∃k,c=k+1:=⟨c-1,by omega⟩;simp only[List.length_cons];rw[decide_eq_false (by omega),cond_false];simp only[bq];rw[if_pos (by decide)];simp only[Int.toNat_zero,List.getElem?_cons_zero,aU,pP (show m.length<1000000 by omega)];refine l (y,m++[y]) ⟨by simp;omega,c,by show hQ t b y<c;omega,by simp;omega,?_⟩ u;rw[<-h];simp[hx,g,j]
  .have g:x=b:=by simpa using i
   rw[<-h];obtain⟨c,rfl⟩:∃k,c=k+1:=⟨c-1,by omega⟩;simp[hx,g]
 .rw[decide_eq_false e,ys e];rfl
def Fv{c i j:Int}(m:dy t a c=some i)(e:dy t c b=some j):∃k,dy t a b=some k/\k<=i+j:=by
 obtain⟨d,l,_,h⟩:=iC m;obtain⟨_,_,f,g⟩:=iC e;obtain⟨k,n,bA⟩:=MD (jl d) h g;exact⟨k,by rw[nW d l f];exact n,bA⟩
def ET(c:cQ t){y w m:Int}(d:eM t a y=some w)(e:dy t y b=some m):∃k,dy t a b=some k/\k<=w+m:=by
 obtain⟨_,i,f,g⟩:=iC e;obtain⟨k,h,bA⟩:=CA (jl c) d g;exact⟨k,by rw[nW c (kE c d).1 f];exact h,bA⟩
theorem zI{t:aK}{b:Int}:∀(n:Nat) (x:Int) (d:bH),hQ t b x<n->(dy t x b).isSome=true->hx (e7 t b) b n x d=d++hx (e7 t b) b n x []
 |0,_,_,h,_=>by omega
 |n+1,x,d,h,l=>by
  obtain⟨k,j⟩:=Option.isSome_iff_exists.1 l;obtain⟨f,_⟩:=iC j;simp only[hx];by_cases e:x=b
  .grind
  .rw[if_neg e,if_neg e];cases g:e7 t b x with
   |nil=>obtain⟨a,c⟩:=zo j e;rw[g]at c;cases c
   |cons a r=>
    have c:a∈e7 t b x:=by rw[g];simp
    have o:=nN f c;obtain⟨p,_,m,_⟩:=tq f c;have i:(dy t a b).isSome=true:=by rw[m];rfl
    simp only;rw[zI n a (d++[a]) (by omega) i,zI n a ([]++[a]) (by omega) i];simp
theorem C3{t:aK}{b:Int}:∀(n m:Nat) (x:Int) (a:bH),hQ t b x<n->hQ t b x<m->(dy t x b).isSome=true->hx (e7 t b) b n x a=hx (e7 t b) b m x a
 |0,_,_,_,h,_,_=>by omega
 |_+1,0,_,_,_,h,_=>by omega
 |n+1,m+1,x,a,h1,l,f=>by
  obtain⟨k,i⟩:=Option.isSome_iff_exists.1 f;obtain⟨d,_⟩:=iC i;simp only[hx];by_cases c:x=b
  .grind
  .rw[if_neg c,if_neg c];cases g:e7 t b x with
   |nil=>rfl
   |cons y r=>
    have e:y∈e7 t b x:=by rw[g];simp
    have o:=nN d e;obtain⟨k,_,j,_⟩:=tq d e;exact C3 n m y _ (by omega) (by omega) (by rw[j];rfl)
def tf(t:aK)(b:Int):e4 t b b=[]:=by simp[e4,hx]
def xq(g:dy t x b=some k)(e:x≠b):∃y r,e7 t b x=y::r/\e4 t x b=y::e4 t y b:=by
 obtain⟨c,j,h,_⟩:=iC g;cases d:e7 t b x with
 |nil=>obtain⟨y,a⟩:=zo g e;rw[d]at a;cases a
 |cons y r=>
  refine⟨y,r,rfl,?_⟩;have a:y∈e7 t b x:=by rw[d];simp
  have m:=nN c a;obtain⟨o,_,i,_⟩:=tq c a;have f:(dy t y b).isSome=true:=by rw[i];rfl
  have n:=rj c (x:=x) h;have l:=nJ c;unfold e4;rw[show(30:Nat)=29+1 from rfl,hx,if_neg e,d];simp only;rw[zI 29 y ([]++[y]) (by omega) f,C3 29 (29+1) y [] (by omega) (by omega) f];simp
def C4(P:Int->Prop)(i:P b)(s:∀x y k w m r,dy t x b=some k->x≠b->e7 t b x=y::r->e4 t x b=y::e4 t y b->eM t x y=some w->dy t y b=some m->w+m=k->P y->P x):
  ∀(n:Nat) (x:Int),hQ t b x<=n->(dy t x b).isSome=true->P x:=by
 intro n;induction n with
 |zero=>
  intro x u e;obtain⟨k,a⟩:=Option.isSome_iff_exists.1 e;by_cases c:x=b
  .rw[c];exact i
  .obtain⟨y,d⟩:=zo a c;have:=nN (iC a).1 d;omega
 |succ n p=>
  intro x u e;obtain⟨k,a⟩:=Option.isSome_iff_exists.1 e;by_cases c:x=b
  .rw[c];exact i
  .obtain⟨y,r,j,l⟩:=xq a c;have g:=(iC a).1;have d:y∈e7 t b x:=by rw[j];simp
   obtain⟨w,m,v,q,h,f,o⟩:=(qI g).1 d;rw[a]at f;cases f
   exact s x y k w m r a c j l q h o (p y (by have:=nN g d;omega) (by rw[h];rfl))
theorem JS(c:(dy t x b).isSome=true):(e4 t x b).length<=hQ t b x:=by
 refine C4 (λx=>(e4 t x b).length<=hQ t b x) (by simp[tf]) (λx y k i g h a _ d e _ _ _ f=>?_) _ x (Nat.le_refl _) c;have:=nN (b:=b) (x:=x) (y:=y) (iC a).1 (by rw[d];simp)
 grind
def k6(a:Int):bH->lR
 |[]=>[]
 |b::r=>aQ.mk a b::k6 b r
def q3(t:aK)(a v b:Int):Prop:=∃c d e,dy t a v=some c/\dy t v b=some d/\dy t a b=some e/\c+d=e
variable {a b:Int}{t:aK}
def KQ(c:cQ t){v z:Int}(l:q3 t a v b)(n:z∈e7 t v a):z∈e7 t b a:=by
 obtain⟨x,y,o,m,i,e,q⟩:=l;obtain⟨p,A,u,f,j,d,r⟩:=(qI c).1 n;rw[m]at d;cases d
 obtain⟨k,h,w⟩:=Fv j i;obtain⟨aZ,g,s⟩:=ET c f h;rw[e]at g;cases g
 refine(qI c).2 ⟨p,k,o,f,h,e,?_⟩;omega
theorem xu(c:cQ t){y v k w m:Int}{r:bH}(q:dy t a b=some k)(C:e7 t b a=y::r)(f:eM t a y=some w)(D:dy t y b=some m)(e:w+m=k)(z:q3 t y v b):q3 t a v b/\e4 t a v=y::e4 t y v:=by
 obtain⟨F,G,L,g,h,i,H⟩:=z;rw[D]at i;cases i
 obtain⟨o,d,N⟩:=ET c f g;obtain⟨J,l,K⟩:=Fv d h;rw[q]at l;cases l
 have n:q3 t a v b:=⟨o,G,k,d,h,q,by omega⟩;refine⟨n,?_⟩;have I:=jl c a y w f;have M:=(nB g).1;have B:a≠v:=by grind
 have x:y∈e7 t v a:=(qI c).2 ⟨w,F,o,f,g,d,by omega⟩;obtain⟨u,O,j,A⟩:=xq d B;have E:u∈e7 t b a:=KQ c n (by rw[j];simp);have:u=y:=by
  have s:=CH c b a;have p:=CH c v a;rw[C]at s E;rw[j]at p x;rw[List.pairwise_cons]at s p
  grind
 rw[A,this]
structure B9(t:aK)(b x:Int):Prop where
 on:∀v∈x::e4 t x b,q3 t x v b
 hop:∀h∈k6 x (e4 t x b),e4 t x h.aJ=e4 t x h.aO++[h.aJ]/\(∃w,eM t h.aO h.aJ=some w)/\h.aJ∈e4 t x b/\h.aO∈x::e4 t x b
theorem Rh{x:Int}(f:(dy t x b).isSome=true):B9 t b x:=by
 obtain⟨g5,u⟩:=Option.isSome_iff_exists.1 f;obtain⟨a,_,l,_⟩:=iC u;refine C4 (B9 t b) ?_ ?_ _ x (Nat.le_refl _) f
 .refine⟨λp d=>?_,λf c=>?_⟩
  .rw[tf]at d;rw[List.mem_singleton.1 d];exact⟨0,0,0,tO a l,tO a l,tO a l,rfl⟩
  .rw[tf]at c;cases c
 .intro x m o v C D e y i n h k j g;refine⟨λp d=>?_,λf c=>?_⟩
  .rcases List.mem_cons.1 d with rfl|d
   .exact⟨0,o,o,tO a (iC e).2.1,e,e,by omega⟩
   .rw[n]at d;exact(xu a e i h k j (g.on p d)).1
  .rw[n]at c ⊢;have q:=(xu a e i h k j (g.on m List.mem_cons_self)).2;rcases List.mem_cons.1 c with rfl|c
   .refine⟨?_,⟨v,h⟩,List.mem_cons_self,List.mem_cons_self⟩;show e4 t x m=e4 t x x++[m];rw[q,tf,tf];rfl
   .obtain⟨w,z,r,s⟩:=g.hop f c;have A:=(xu a e i h k j (g.on f.aJ (List.mem_cons_of_mem _ r))).2;have B:=(xu a e i h k j (g.on f.aO s)).2
    grind
def Hf(a:bm):gb [] a=a:=by
 unfold gb gB;simp
variable {g:aK}{root:Int}
theorem KR(f:cQ g){m:kZ}(i:m.Perm (e6 g)){x k:Int}(u:x∈ids g)(t:dy g root x=some k){d:mR}(w:∀c∈d,1<=c.Value)(D:∀a∈m,gB d a.Hop.aO a.Hop.aJ<=a.b6):
  Ok (p8 (m.map (gb d)) root x) (λp=>p.2=m.map (gb (d++p.1))/\(∀c∈p.1,j2 g root [x] c)/\(∀a∈m,gB (d++p.1) a.Hop.aO a.Hop.aJ<=a.b6)/\p.1.length<=24/\(d=[]->k<=hg p.1)):=by
 have y:=oZ f;have s:=y9 i y;have A:=(iC t).2.2.2;have I:=nB t;have B:ge m x root k:=ER (λa b=>i.mem_iff.2 b) (P4 f A)
 have r:∀a∈m,0<=(gb d a).b6/\(gb d a).b6<=a.b6:=λa b=>by
  have C:=D a b;have v:=Jx w a.Hop.aO a.Hop.aJ;unfold gb;simp only;omega
 have o:iF (m.map (gb d)):=λa b=>by
  obtain⟨j,h,rfl⟩:=List.mem_map.1 b;have C:=r j h;have v:=s.cost j h;omega
 obtain⟨H,J,n⟩:=L9 (L':=m.map (gb d)) (λa b=>⟨gb d a,List.mem_map.2 ⟨a,b,rfl⟩,rfl,(r a b).2⟩) B;have q:(m.map (gb d)).length<=1000:=by rw[List.length_map];exact s.len
 refine Ok.mono (Jw o q n) λp z=>?_
 have e:=JP f o q (λa b=>by
  obtain⟨j,h,rfl⟩:=List.mem_map.1 b;exact zj (a:=j) f (i.mem_iff.1 h)) u n (by omega) z
 refine⟨?_,e.cut,λa b=>?_,e.len,?_⟩
 .rw[e.res,List.map_map];exact List.map_congr_left λa _=>KM d p.1 a
 .have:=e.fF (gb d a) (List.mem_map.2 ⟨a,b,rfl⟩);rw[EP];unfold gb at this
  grind
 .rintro rfl;have l:=e.val.1;rw[show m.map (gb [])=m from by rw[List.map_congr_left (g:=id) λa _=>Hf a];simp]at l;obtain⟨G,E,F⟩:=Of f (ER (λa b=>i.mem_iff.1 b) l)
  grind
theorem JT(m:List (Int×Int))(a b:Int):Ok (su a b m) λr=>decide (r<0)=decide ((ay m b).getD 0<(ay m a).getD 0):=by
 unfold su;rw[tL,aU];refine⟨_,rfl,?_⟩;unfold pa
 grind
theorem Jz(h:cQ g)(j:root∈ids g){rs:bH}(l:rs.Pairwise (·<·))(f:∀x∈rs,x∈ids g)(n:rs.length<=100)(o:∃x∈rs,dy g root x=none):l2 g root rs=some ([],9):=by
 unfold l2;rw[kX _ _ _ (by omega),aU,lP h j l f,decide_eq_true rfl];refine Ok.eq ?_;refine au7 (λe _=>∀b∈e,(dy g root b).isSome=true) (λe x p s bf m d i=>?_) _ (λb a=>(by cases a)) λs d=>?_
 .rw[C2,aU];cases c:dy g root x with
  |none=>unfold jZ;simp only[c];exact⟨_,rfl,rfl⟩
  |some k=>
   unfold jZ;simp only[c,Option.isSome_some,Bool.not_true,cond_false];refine i _ λb a=>?_;rcases List.mem_append.1 a with a|a
   .exact d b a
   .grind
 .grind
instance Sg:DecidableEq aQ:=λa b=>decidable_of_iff (gH a b=true) (qs a b)
def D8(l:List (aQ×Bool))(n:aQ)(v:Bool):(g7 gH l n v).map (·.1)=if n∈l.map (·.1)then l.map (·.1)else l.map (·.1)++[n]:=by
 induction l with
 |nil=>simp[g7]
 |cons p r b=>
  simp only[g7];cases a:gH n p.1 with
  |true=>
   have a:=(qs _ _).1 a;simp[a]
  |false=>
   have c:n≠p.1:=λd=>by rw[(qs n p.1).2 d]at a;cases a
   simp only[cond_false,List.map_cons,b,List.mem_cons,c,false_or];split<;>simp
variable {l:List (aQ×Bool)}
theorem Og(a:(l.map (·.1)).Nodup)(n:aQ)(v:Bool):((g7 gH l n v).map (·.1)).Nodup:=by
 rw[D8]
 grind
theorem Mb{n:aQ}{v:Bool}{a:aQ}:a∈(g7 gH l n v).map (·.1)↔a=n\/a∈l.map (·.1):=by
 rw[D8]
 grind
def vt(m:List (aQ×Bool))(a:lR):List (aQ×Bool):=a.foldl (λm b=>g7 gH m b true) m
theorem C5:∀(b:lR) (m:List (aQ×Bool)),(m.map (·.1)).Nodup->((vt m b).map (·.1)).Nodup/\∀a,a∈(vt m b).map (·.1)↔a∈b\/a∈m.map (·.1)
 |[],m,hm=>⟨hm,λa=>by simp[vt]⟩
 |x::r,m,hm=>by
  obtain⟨d,c⟩:=C5 r (g7 gH m x true) (Og hm _ _);refine⟨d,λa=>(c a).trans ?_⟩;rw[Mb,List.mem_cons];constructor
  .grind
  .grind
def yt{β:Type}{K:(Int×List (aQ×Bool))->Option β}:∀(l:bH) (j:Nat) (a:Int) (m:List (aQ×Bool)),∃z,bZ l j (λ(g:Int) (e2:Int) (d:(Int×(List (aQ×Bool)))->Option _) (c:Int×(List (aQ×Bool)))=>match c with|(e,b)=>d (e2,g7 gH b (aQ.mk e e2) true)) K (a,m)=K (z,vt m (k6 a l))
 |[],j,a,m=>⟨a,rfl⟩
 |x::r,j,a,m=>by
  obtain⟨z,f⟩:=yt (K:=K) r (j+1) x (g7 gH m (aQ.mk a x) true);exact⟨z,f⟩
def JA{t:aK}{a b:Int}(d:dy t a b=none)(c:a≠b):e4 t a b=[]:=uB b (xo d) c []
def Q0{a b:aQ}:c9 [λx:aQ=>x.aO,λx:aQ=>x.aJ] a b<0↔dV a b=true:=by
 rw[iX,iX];simp only[c9,dV];simp
variable {g:aK}{root:Int}{rs:bH}
theorem Iz(f:cQ g)(z:root∈ids g)(A:rs.Pairwise (·<·))(k:∀x∈rs,x∈ids g)(I:rs.length<=100)(i:∀x∈rs,(dy g root x).isSome=true):
  Ok (l1 g root rs) (λr=>r.2=0/\r.1.cH=root/\(∀c,c∈r.1.Links↔∃b∈rs,c∈k6 root (e4 g root b))/\r.1.Links.Pairwise λa b=>dV a b=true):=by
 unfold l1;rw[kX _ _ _ (by omega),aU,lP f z A k,decide_eq_true rfl];refine au7 (λj (d:List (aQ×Bool))=>(d.map (·.1)).Nodup/\∀c,c∈d.map (·.1)↔∃b∈j,c∈k6 root (e4 g root b)) (λj x r d bf t e F=>?_) _ ⟨List.nodup_nil,λc=>by simp⟩ λd e=>?_
 .have w:x∈rs:=by rw[t];simp
  obtain⟨L,B⟩:=Option.isSome_iff_exists.1 (i x w);rw[CI,aU];have v:((!decide (x=root))&&(decide (((e4 g root x).length:Int)=(0:Int))))=false:=by
   by_cases y:x=root
   .grind
   .obtain⟨N,E,_,J⟩:=xq B (Ne.symm y)
    grind
  rw[v,cond_false];obtain⟨O,D⟩:=yt (K:=λ(o:Int×(List (aQ×Bool)))=>match o with|(H,m)=>bf m) (e4 g root x) 0 root d;rw[D];obtain⟨h,s⟩:=C5 (k6 root (e4 g root x)) d e.1
  grind
 .have G:d.length<=1000:=by
   have:=qt e.1 (b:=(e6 g).map (·.Hop)) λc q=>by
    obtain⟨b,n,C⟩:=(e.2 c).1 q;obtain⟨_,⟨M,p⟩,_⟩:=(Rh (i b n)).hop c C;exact List.mem_map.2 ⟨_,(o2 f).1 p,rfl⟩
   rw[List.length_map,List.length_map]at this;exact Nat.le_trans this (oZ f).len
  refine Ok.dR (decide_eq_true (by omega)) ?_;obtain⟨E,h,s,u⟩:=B2 (ks:=[λx:aQ=>x.aO,λx:aQ=>x.aJ]) (l:=d.map Prod.fst) (e.1.imp λ{a b} c=>FG c) (by rw[List.length_map];omega);rw[h,aU];refine⟨_,rfl,rfl,rfl,λc=>?_,u.imp λ{a b} c=>Q0.1 c⟩
  grind
theorem JB(d:cQ g)(h:root∈ids g)(r:rs.Pairwise (·<·))(l:∀x∈rs,x∈ids g)(y:rs.length<=100)(z:∃x∈rs,dy g root x=none):l1 g root rs=some (b0.mk 0 [],9):=by
 unfold l1;rw[kX _ _ _ (by omega),aU,lP d h r l,decide_eq_true rfl];refine Ok.eq ?_;refine au7 (λj _=>∀b∈j,(dy g root b).isSome=true) (λj x B u bf v e o=>?_) _ (λb a=>(by cases a)) λs e=>?_
 .rw[CI,aU];cases c:dy g root x with
  |none=>
   have f:root≠x:=λi=>by rw[<-i,tO d h]at c;cases c
   rw[JA c f,decide_eq_false (Ne.symm f)];exact⟨_,rfl,rfl⟩
  |some k=>
   have p:((!decide (x=root))&&(decide (((e4 g root x).length:Int)=(0:Int))))=false:=by
    by_cases q:x=root
    .grind
    .obtain⟨b,A,_,i⟩:=xq c (Ne.symm q)
     grind
   rw[p,cond_false];obtain⟨C,t⟩:=yt (K:=λ(n:Int×(List (aQ×Bool)))=>match n with|(w,m)=>bf m) (e4 g root x) 0 root u;rw[t];refine o _ λb a=>?_;rcases List.mem_append.1 a with a|a
   .exact e b a
   .grind
 .grind
theorem JU{l:mR}(s:l.length<=140737488351232)(k:∀c∈l,c.aP.length<=140737488351232):Ok (sK l) (λb=>b=true->l.length<=1000/\∀c∈l,c.aP.length<=1000):=by
 unfold sK;refine au2 (λd:Int×Int=>∃a:Nat,d.2=(a:Int)/\a<=l.length/\(l.length:Int)<=d.1/\d.1<=140737488360000/\∀c∈l.take a,(c.aP.length:Int)<=d.1) (λd=>if d.1<2000 then((l.length:Int)-d.2).toNat+1 else 0) ⟨0,rfl,Nat.zero_le _,Int.le_refl _,by simp only;omega,λc f=>by simp at f⟩ (by simp only;split<;>omega) ?_;rintro⟨j,q⟩ bf ⟨a,i,r,n,m,f⟩ h;simp only at i n m f h ⊢;subst i;by_cases e:a<l.length/\j<2000
 .rw[decide_eq_true (by omega:(a:Int)<(l.length:Int)),decide_eq_true e.2];simp only[Bool.and_self,cond_true];have g:l[a]?=some l[a]:=List.getElem?_eq_getElem e.1;have t:=k _ (List.getElem_mem e.1);rw[cf g,aU,dO (by omega) (by omega),dO (by omega) (by omega)];refine h _ ⟨a+1,by simp,e.1,by simp only;omega,by simp only;omega,λc o=>?_⟩ (by simp only;rw[if_pos e.2];split<;>omega);simp only;rw[List.take_add_one,g,Option.toList_some]at o
  grind
 .have:((decide ((a:Int)<(l.length:Int)))&&(decide (j<(2000:Int))))=false:=by grind
  rw[this,cond_false];refine⟨_,rfl,λp=>?_⟩
  grind
theorem KS{s:bR}(x:eW s){l:mR}(N:l.length<=1000)(w:∀c∈l,c.aP.length<=1000):Ok (sW s l) (λp=>eW p.2/\p.1.length<=1001/\∀c∈p.1,c.aP.length<=1001):=by
 unfold sW;rw[iB (by simp;omega),aU,List.nil_append];by_cases L:l.length=0
 .rw[decide_eq_true (by omega),cond_true];refine Ok.aj (qV x) λz t=>Ok.aj (qV t.2) λH n=>⟨_,rfl,n.2,by simp,λc b=>?_⟩
  grind
 rw[decide_eq_false (by omega),cond_false];refine Ok.aj (hW x (by omega)) λz t=>?_;obtain⟨u,R⟩:=z;obtain⟨⟨E,q,_⟩,dM⟩:=t;simp only at E q dM ⊢;have q:=q (by omega);have B:u=((u.toNat:Nat):Int):=by omega
 generalize u.toNat=d at B;subst B;have C:d<l.length:=by omega
 have v:l[d]?=some l[d]:=List.getElem?_eq_getElem C;have F:=w _ (List.getElem_mem C);generalize M:l[d]=f at v F
 have j:∀(e:mR) (a:bI),e.length=l.length->e3 e (d:Int) a=some (e.set d a):=λe a m=>by
  unfold e3;rw[if_pos ⟨by omega,by omega⟩,Int.toNat_natCast]
 have r:∀(e:mR) (a:bI),e.length=l.length->bq (e.set d a) (d:Int)=some a:=λe a m=>cf (by rw[List.getElem?_set,if_pos rfl,if_pos (by omega)])
 have k:∀(a:bI),a.aP.length<=1001->∀c∈l.set d a,c.aP.length<=1001:=λa D c b=>by
  rcases List.mem_or_eq_of_mem_set b with b|rfl
  .have:=w c b;omega
  .exact D
 rw[cf v,aU,iB (by simp;omega),aU,List.nil_append,j _ _ rfl,aU];refine au0 (λg:(mR)×(bH)×Int=>eW (bR.mk g.2.1 g.2.2)/\g.1.length<=1001/\∀c∈g.1,c.aP.length<=1001) (λg G=>?_) λK h=>?_
 .obtain⟨Q,O,P⟩:=g;exact⟨_,rfl,G⟩
 refine Ok.aj (hW dM (by omega)) λH n=>?_;have i:=n.2;refine Ok.cs (λ_=>?_) λ_=>Ok.cs (λ_=>?_) λ_=>Ok.cs (λ_=>?_) λ_=>?_
 .rw[r _ _ rfl,aU];refine Ok.aj (nQ i (by simp) (by simp)) λp o=>?_;rw[j _ _ (List.length_set ..),aU,List.set_set];exact h _ ⟨o.2,by rw[List.length_set];omega,k _ (by simp only;omega)⟩
 .rw[r _ _ rfl,aU];simp only;have A:0<=Int.tdiv (f.aP.length:Int) 2/\Int.tdiv (f.aP.length:Int) 2<=f.aP.length:=by
   have:Int.tdiv (f.aP.length:Int) 2=(f.aP.length:Int) / 2:=Int.tdiv_eq_ediv_of_nonneg (by omega);omega
  rw[dO (by omega) (by omega)];refine Ok.aj (mq ⟨by omega,A.1,A.2⟩) λe m=>?_;rw[j _ _ (List.length_set ..),aU,List.set_set];have:=m.2;exact h _ ⟨i,by rw[List.length_set];omega,k _ (by simp only;omega)⟩
 .rw[r _ _ rfl,aU];refine Ok.aj (qV i) λp o=>?_;simp only;rw[iB (by simp;omega),aU,j _ _ (List.length_set ..),aU,List.set_set];exact h _ ⟨o.2,by rw[List.length_set];omega,k _ (by simp;omega)⟩
 .refine Ok.aj (hr (by omega) (by rw[List.length_set];omega)) λI J=>?_;rw[iB (by simp;omega),aU];refine h _ ⟨i,by simp;omega,λc b=>?_⟩;have y:=k (bI.mk f.aP f.Value) (by simp only;omega);rcases List.mem_append.1 b with b|b
  .exact y c b
  .rw[List.mem_singleton.1 b];exact y I J.1
def AD(c:Int->Int->fe):Prop:=∀a b,∃d,c a b=some d
variable {k:Nat}{m:bH}
theorem mX(v:Int)(a:k<m.length):e3 m (k:Int) v=some (m.set k v):=by
 unfold e3
 grind
variable {x:Nat}
theorem D9{y:Nat}(a:x<m.length)(b:y<m.length):((m.set x (m.getD y 0)).set y (m.getD x 0)).Perm m:=by grind
def fT{e:Int}(a:e=(k:Int))(b:k<=100000):an e=(k:Int):=by
 subst a;exact dO (by omega) (by omega)
def vH{i j:Nat}(c:(i+j) / 2=k)(b:i+j<=100000):an (Int.fdiv (IntKind.wrap .u64 (an ((i:Int)+(j:Int)))) (2 ^ min (1:Int).toNat 64))=(k:Int):=by
 rw[dO (n:=(i:Int)+(j:Int)) (by omega) (by omega)];have a:IntKind.wrap .u64 ((i:Int)+(j:Int))=(i:Int)+(j:Int):=by
  rw[IntKind.wrap_u64];omega
 rw[a,show(2:Int) ^ min (1:Int).toNat 64=2 from rfl,Int.fdiv_eq_ediv_of_nonneg _ (by omega)];rw[dO (by omega) (by omega)];omega
variable {a b:Nat}{l:bH}
theorem Ea{c:Int->Int->fe}(t:AD c)(I:a<=b)(x:b<=l.length)(D:l.length<=1000):Ok (oi l (a:Int) (b:Int) c) (λm=>m.Perm l):=by
 unfold oi;refine au2 (λs:Int×bH=>∃e:Nat,s.1=(e:Int)/\a<e/\e<=1001/\s.2.Perm l) (λs=>((b:Int)-s.1).toNat) ⟨a+1,by simp only;rw[dO (by omega) (by omega)];simp,by omega,by omega,List.Perm.refl _⟩ (by simp only;rw[fT (k:=a+1) (by simp) (by omega)];omega) ?_;rintro⟨B,m⟩ bf ⟨e,p,A,E,g⟩ n;simp only at p g n ⊢;subst p;by_cases F:e<b
 rotate_left
 .rw[decide_eq_false (by omega),cond_false];exact⟨m,rfl,g⟩
 rw[decide_eq_true (by omega),cond_true];refine au2 (λs:Int×bH=>∃d:Nat,s.1=(d:Int)/\a<=d/\d<=e/\s.2.Perm l) (λs=>s.1.toNat) ⟨e,rfl,by omega,Nat.le_refl _,g⟩ (by simp only;omega) ?_;rintro⟨J,i⟩ y ⟨d,q,G,H,f⟩ o;simp only at q f o ⊢;subst q;have C:i.length=l.length:=f.length_eq;refine au0 (λj:Bool=>j=true->a<d) (λj r=>?_) λw z=>?_
 .cases j with
  |false=>
   rw[cond_false,dO (by omega) (by omega)];exact n _ ⟨e+1,by simp,by omega,by omega,f⟩ (by simp only;omega)
  |true=>
   have u:=r rfl;have h:an ((d:Int)-(1:Int))=((d-1:Nat):Int):=fT (by omega) (by omega);rw[cond_true,h,eG 0 (by omega),aU,eG 0 (by omega),aU,mX _ (by omega),aU,eG 0 (by rw[List.length_set];omega),aU,mX _ (by rw[List.length_set];omega),aU];exact o _ ⟨d-1,rfl,by omega,by omega,(D9 (by omega) (by omega)).trans f⟩ (by simp only;omega)
 .by_cases u:a<d
  .have h:an ((d:Int)-(1:Int))=((d-1:Nat):Int):=fT (by omega) (by omega);obtain⟨K,v⟩:=t (i.getD d 0) (i.getD (d-1) 0);rw[decide_eq_true (by omega),cond_true,eG 0 (by omega),aU,h,eG 0 (by omega),aU,v,aU]
   grind
  .grind
theorem Ai{c:Int->Int->fe}{y n:Nat}(d:x+n<=l.length)(e:y+n<=l.length)(h:l.length<=1000):Ok (oj l (x:Int) (y:Int) (n:Int) c) (λm=>m.Perm l):=by
 unfold oj;refine Ok.dR (decide_eq_true (by omega)) ?_;refine avh (λ(_:Int) (m:bH)=>m.Perm l) 0 (n:Int) (λb m bf i j a f=>?_) (λb m _ _ a=>⟨m,rfl,a⟩) _ _ _ rfl (by omega) (λ_=>by omega) (List.Perm.refl _);have g:=a.length_eq;obtain⟨k,rfl⟩:∃k:Nat,b=(k:Int):=⟨b.toNat,by omega⟩;rw[fT (k:=y+k) (by simp) (by omega),fT (k:=x+k) (by simp) (by omega)];rw[eG 0 (by omega),aU,eG 0 (by omega),aU,mX _ (by omega),aU,eG 0 (by rw[List.length_set];omega),aU,mX _ (by rw[List.length_set];omega),aU]
 grind
def KT{c:Int->Int->fe}{m:Nat}(F:a<m)(u:m<b)(x:b<=l.length)(D:l.length<=1000):Ok (r0 l (a:Int) (m:Int) (b:Int) c) (λr=>r.Perm l):=by
 unfold r0;refine au2 (λg:Int×Int×bH=>∃d f:Nat,g.1=(d:Int)/\g.2.1=(f:Int)/\1<=d/\1<=f/\d<=m-a/\f<=b-m/\g.2.2.Perm l) (λg=>(g.1+g.2.1).toNat) ⟨m-a,b-m,fT (by omega) (by omega),fT (by omega) (by omega),by omega,by omega,Nat.le_refl _,Nat.le_refl _,List.Perm.refl _⟩ (by simp only;rw[fT (k:=m-a) (by omega) (by omega),fT (k:=b-m) (by omega) (by omega)];omega) ?_;rintro⟨A,E,n⟩ bf ⟨d,f,o,p,B,y,C,w,h⟩ j;simp only at o p h j ⊢;subst o p;have v:=h.length_eq;have s:an ((m:Int)-(d:Int))=((m-d:Nat):Int):=fT (by omega) (by omega);rw[s];by_cases q:d=f
 .subst q;rw[decide_eq_true rfl];simp only[Bool.not_true,cond_false];exact Ok.aj (Ai (l:=n) (by omega) (by omega) (by omega)) λr i=>⟨r,rfl,i.trans h⟩
 rw[decide_eq_false (by omega:¬(d:Int)=(f:Int))];simp only[Bool.not_false,cond_true];by_cases z:f<d
 .rw[decide_eq_true (by omega:(f:Int)<(d:Int)),cond_true];refine Ok.aj (Ai (l:=n) (by omega) (by omega) (by omega)) λr i=>?_;refine j _ ⟨d-f,f,fT (by omega) (by omega),rfl,by omega,by omega,by omega,by omega,i.trans h⟩ (by simp only;rw[fT (k:=d-f) (by omega) (by omega)];omega)
 .rw[decide_eq_false (by omega:¬(f:Int)<(d:Int)),cond_false];have t:an ((an ((m:Int)+(f:Int)))-(d:Int))=((m+f-d:Nat):Int):=by
   rw[fT (e:=(m:Int)+(f:Int)) (k:=m+f) (by simp) (by omega)];exact fT (by omega) (by omega)
  rw[t];refine Ok.aj (Ai (l:=n) (by omega) (by omega) (by omega)) λr i=>?_;refine j _ ⟨d,f-d,rfl,fT (by omega) (by omega),by omega,by omega,by omega,by omega,i.trans h⟩ (by simp only;rw[fT (k:=f-d) (by omega) (by omega)];omega)
theorem yJ{c:Int->Int->fe}(y:AD c):∀(n:Nat) (l:bH) (a m b:Nat),b-a<=n->a<m->m<b->b<=l.length->l.length<=1000->Ok (lq n l (a:Int) (m:Int) (b:Int) c) (λr=>r.Perm l)
 |0,l,a,m,b,U,h1,L,_,_=>by omega
 |n+1,l,a,m,b,U,h1,L,aa,T=>by
  rw[lq,fT (k:=m-a) (by omega) (by omega),fT (k:=b-m) (by omega) (by omega)];by_cases aB:m-a=1
  .rw[decide_eq_true (by omega),cond_true];refine au2 (λd:Int×Int=>∃f g:Nat,d.1=(f:Int)/\d.2=(g:Int)/\m<=f/\f<=b/\g<=b) (λd=>(d.2-d.1).toNat) ⟨m,b,rfl,rfl,Nat.le_refl _,by omega,Nat.le_refl _⟩ (by simp only;omega) ?_;rintro⟨O,X⟩ bf ⟨f,g,v,w,P,Q,M⟩ j;simp only at v w j ⊢;subst v w;by_cases R:f<g
   .rw[decide_eq_true (by omega),cond_true,vH (k:=(f+g) / 2) rfl (by omega),eG 0 (by omega),aU,eG 0 (by omega),aU];obtain⟨r,D⟩:=y (l.getD ((f+g) / 2) 0) (l.getD a 0);rw[D,aU];refine Ok.cs (λ_=>?_) λ_=>?_
    .exact j _ ⟨(f+g) / 2+1,g,fT (by simp) (by omega),rfl,by omega,by omega,by omega⟩ (by simp only;rw[fT (k:=(f+g) / 2+1) (by simp) (by omega)];omega)
    .exact j _ ⟨f,(f+g) / 2,rfl,rfl,by omega,by omega,by omega⟩ (by simp only;omega)
   .rw[decide_eq_false (by omega),cond_false];have W:an ((f:Int)-(1:Int))=((f-1:Nat):Int):=fT (by omega) (by omega);refine au2 (λd:Int×bH=>∃k:Nat,d.1=(k:Int)/\k<=b/\d.2.Perm l) (λd=>((b:Int)-d.1).toNat) ⟨a,rfl,by omega,List.Perm.refl _⟩ (by simp only;omega) ?_;rintro⟨g5,s⟩ N ⟨k,z,de,o⟩ A;simp only at z o A ⊢;subst z;have t:=o.length_eq;rw[W];by_cases Y:k<f-1
    .rw[decide_eq_true (by omega),cond_true,fT (k:=k+1) (by simp) (by omega),eG 0 (by omega),aU,eG 0 (by omega),aU,mX _ (by omega),aU,eG 0 (by rw[List.length_set];omega),aU,mX _ (by rw[List.length_set];omega),aU]
     grind
    .rw[decide_eq_false (by omega),cond_false];exact⟨s,rfl,o⟩
  rw[decide_eq_false (by omega),cond_false];by_cases az:b-m=1
  .rw[decide_eq_true (by omega),cond_true];refine au2 (λd:Int×Int=>∃f g:Nat,d.1=(f:Int)/\d.2=(g:Int)/\a<=f/\f<=m/\g<=m) (λd=>(d.2-d.1).toNat) ⟨a,m,rfl,rfl,Nat.le_refl _,by omega,Nat.le_refl _⟩ (by simp only;omega) ?_;rintro⟨O,X⟩ bf ⟨f,g,v,w,P,Q,M⟩ j;simp only at v w j ⊢;subst v w;by_cases R:f<g
   .rw[decide_eq_true (by omega),cond_true,eG 0 (by omega),aU,vH (k:=(f+g) / 2) rfl (by omega),eG 0 (by omega),aU];obtain⟨r,D⟩:=y (l.getD m 0) (l.getD ((f+g) / 2) 0);rw[D,aU];refine Ok.cs (λ_=>?_) λ_=>?_
    .exact j _ ⟨(f+g) / 2+1,g,fT (by simp) (by omega),rfl,by omega,by omega,by omega⟩ (by simp only;rw[fT (k:=(f+g) / 2+1) (by simp) (by omega)];omega)
    .exact j _ ⟨f,(f+g) / 2,rfl,rfl,by omega,by omega,by omega⟩ (by simp only;omega)
   .rw[decide_eq_false (by omega),cond_false];refine au2 (λd:Int×bH=>∃k:Nat,d.1=(k:Int)/\k<=m/\d.2.Perm l) (λd=>d.1.toNat) ⟨m,rfl,Nat.le_refl _,List.Perm.refl _⟩ (by simp only;omega) ?_;rintro⟨g5,s⟩ N ⟨k,z,de,o⟩ A;simp only at z o A ⊢;subst z;have t:=o.length_eq;by_cases Y:f<k
    .rw[decide_eq_true (by omega),cond_true,fT (k:=k-1) (by omega) (by omega),eG 0 (by omega),aU,eG 0 (by omega),aU,mX _ (by omega),aU,eG 0 (by rw[List.length_set];omega),aU,mX _ (by rw[List.length_set];omega),aU];exact A _ ⟨k-1,rfl,by omega,(D9 (by omega) (by omega)).trans o⟩ (by simp only;omega)
    .rw[decide_eq_false (by omega),cond_false];exact⟨s,rfl,o⟩
  rw[decide_eq_false (by omega),cond_false,vH (k:=(a+b) / 2) rfl (by omega)];generalize aC:(a+b) / 2=mid;rw[fT (e:=(mid:Int)+(m:Int)) (k:=mid+m) (by simp) (by omega),fT (e:=((mid+m:Nat):Int)-1) (k:=mid+m-1) (by omega) (by omega)];refine au0 (λd:Int×Int=>∃q r:Nat,d.1=(q:Int)/\d.2=(r:Int)/\a<=q/\mid+m-q<=b/\q<=r/\r<=m/\r<=mid) (λd S=>?_) λZ E=>?_
  rotate_left
  .by_cases aD:mid<m
   .rw[decide_eq_true (by omega),cond_true];exact E _ ⟨mid+m-b,mid,fT (by omega) (by omega),rfl,by omega,by omega,by omega,by omega,Nat.le_refl _⟩
   .rw[decide_eq_false (by omega),cond_false];exact E _ ⟨a,m,rfl,rfl,Nat.le_refl _,by omega,by omega,Nat.le_refl _,by omega⟩
  obtain⟨ao,ar⟩:=d;obtain⟨q,r,I,J,am,aq,V,ai,ag⟩:=S;simp only at I J;subst I J;dsimp only;refine au2 (λd:Int×Int=>∃h i:Nat,d.1=(h:Int)/\d.2=(i:Int)/\q<=h/\h<=r/\i<=r) (λd=>(d.2-d.1).toNat) ⟨q,r,rfl,rfl,Nat.le_refl _,V,Nat.le_refl _⟩ (by simp only;omega) ?_;rintro⟨aE,t0⟩ bf ⟨h,i,H,K,ab,ak,t1⟩ j;simp only at H K j ⊢;subst H K;by_cases AS:h<i
  .rw[decide_eq_true (by omega),cond_true,vH (k:=(h+i) / 2) rfl (by omega),fT (k:=mid+m-1-(h+i) / 2) (by omega) (by omega),eG 0 (by omega),aU,eG 0 (by omega),aU];obtain⟨x,p⟩:=y (l.getD (mid+m-1-(h+i) / 2) 0) (l.getD ((h+i) / 2) 0);rw[p,aU];refine Ok.cs (λ_=>?_) λ_=>?_
   .exact j _ ⟨(h+i) / 2+1,i,fT (by simp) (by omega),rfl,by omega,by omega,by omega⟩ (by simp only;rw[fT (k:=(h+i) / 2+1) (by simp) (by omega)];omega)
   .exact j _ ⟨h,(h+i) / 2,rfl,rfl,by omega,by omega,by omega⟩ (by simp only;omega)
  rw[decide_eq_false (by omega),cond_false,fT (k:=mid+m-h) (by omega) (by omega)];generalize aA:mid+m-h=e;refine au0 (λs:bH=>s.Perm l) (λs t=>?_) λaf F=>?_
  rotate_left
  .refine Ok.cs (λu=>?_) λ_=>F _ (List.Perm.refl _);simp only[Bool.and_eq_true,decide_eq_true_eq]at u;exact Ok.aj (KT (by omega) (by omega) (by omega) T) λx p=>F _ p
  have aw:=t.length_eq;refine au0 (λB:bH=>B.Perm l) (λB C=>?_) λae G=>?_
  rotate_left
  .refine Ok.cs (λu=>?_) λ_=>G _ t;simp only[Bool.and_eq_true,decide_eq_true_eq]at u;exact Ok.aj (yJ y n s a h mid (by omega) (by omega) (by omega) (by omega) (by omega)) λx p=>G _ (p.trans t)
  have ax:=C.length_eq;refine Ok.cs (λu=>?_) λ_=>⟨_,rfl,C⟩;simp only[Bool.and_eq_true,decide_eq_true_eq]at u;exact Ok.aj (yJ y n B mid e b (by omega) (by omega) (by omega) (by omega) (by omega)) λx p=>⟨_,rfl,p.trans C⟩
theorem IP{c:Int->Int->fe}(o:AD c)(X:l.length<=39):Ok (rY l c) (λm=>m.Perm l):=by
 unfold rY;refine Ok.aj (P:=λm=>m.Perm l) ?_ λm R=>⟨m,rfl,R⟩;unfold vL;refine au2 (λd:Int×Int×bH=>(d.1=0/\d.2.1=20\/d.1=20/\d.2.1=40/\20<=l.length)/\d.2.2.Perm l) (λd=>(40-d.2.1).toNat) ⟨.inl ⟨rfl,rfl⟩,List.Perm.refl _⟩ (by simp only;omega) ?_;rintro⟨a,b,m⟩ bf ⟨z,h⟩ u;simp only at z h u ⊢;have M:=h.length_eq
 have fin:∀a:Nat,a<=l.length->Ok (aj (oi m (a:Int) (l.length:Int) c) λ(F:bH)=>dn (λ(t:(Int×(bH))->Option _) (k:Int×(bH))=>match k with|(e,r)=>bif decide (e<(l.length:Int))then dn (λ(A:(Int×Int×(bH))->Option _) (k:Int×Int×(bH))=>match k with|(f,j,n)=>bif decide (j<=(l.length:Int))then aj (lq fuel n f (an (f+e)) j c) λ(H:(bH))=>A (j,an (j+(an ((2:Int)*e))),H)else jn (λ(L:(bH))=>t (an (e*(2:Int)),L)) λy=>bif decide (an (f+e)<(l.length:Int))then aj (lq fuel n f (an (f+e)) (l.length:Int) c) λ(K:(bH))=>y K else y n) ((0:Int),an ((2:Int)*e),r)else some r) ((20:Int),F)) λm=>m.Perm l:=by
  intro a ab;rw[<-M];refine Ok.aj (Ea o (by omega) (Nat.le_refl _) (by omega)) λS g=>?_;have aa:=g.length_eq;refine au2 (λd:Int×bH=>(d.1=20\/d.1=40)/\d.2.Perm m) (λd=>(40-d.1).toNat) ⟨.inl rfl,g⟩ (by simp only;omega) ?_;rintro⟨D,I⟩ t ⟨q,i⟩ B;simp only at q i B ⊢;have Y:=i.length_eq;by_cases w:D<(m.length:Int)
  rotate_left
  .rw[decide_eq_false w,cond_false];exact⟨I,rfl,i.trans h⟩
  have q:D=20:=by omega
  subst q;rw[decide_eq_true w,cond_true];refine au2 (λd:Int×Int×bH=>d.1=0/\d.2.1=40/\d.2.2.Perm m) (λd=>0) ⟨rfl,(show an (2*20)=40 by decide),i⟩ (by decide) ?_;rintro⟨V,U,G⟩ A ⟨C,v,p⟩ N;simp only at C v p N ⊢;subst C v;have Z:=p.length_eq;rw[decide_eq_false (by omega),cond_false];refine au0 (λs:bH=>s.Perm m) (λs O=>?_) λT J=>?_
  .exact B _ ⟨.inr (show an (20*2)=40 by decide),O⟩ (by show(40-an (20*2)).toNat<(40-20:Int).toNat;decide)
  .rw[show an ((0:Int)+20)=((20:Nat):Int)by decide,decide_eq_true (by omega),cond_true];exact Ok.aj (yJ o fuel G 0 20 m.length (by unfold fuel;omega) (by decide) (by omega) (by omega) (by omega)) λx E=>J _ (E.trans p)
 rcases z with⟨rfl,rfl⟩|⟨rfl,rfl,W⟩
 .by_cases Q:(20:Int)<=(l.length:Int)
  .rw[decide_eq_true Q,cond_true];refine Ok.aj (Ea (a:=0) (b:=20) o (by decide) (by omega) (by omega)) λS g=>?_;exact u _ ⟨.inr ⟨rfl,(show an (20+20)=40 by decide),by omega⟩,g.trans h⟩ (by show(40-an (20+20)).toNat<(40-20:Int).toNat;decide)
  .grind
 .grind
variable {g:aK}{root:Int}{rs:bH}
theorem JV(k:cQ g)(n:root∈ids g)(R:rs.Pairwise (·<·))(p:∀x∈rs,x∈ids g)(L:rs.length<=39)(y:∀x∈rs,(dy g root x).isSome=true):
  Ok (l2 g root rs) (λr=>r.2=0/\r.1.length<=200/\∀c∈r.1,j2 g root rs c):=by
 unfold l2;rw[kX _ _ _ (by omega),aU,lP k n R p,decide_eq_true rfl];refine au7 (λC (s:List (Int×Int))=>True) (λC x r s bf l e u=>?_) _ trivial λN Z=>?_
 .have i:x∈rs:=by rw[l];simp
  obtain⟨T,B⟩:=Option.isSome_iff_exists.1 (y x i);rw[C2,aU];unfold jZ
  grind
 .show Ok (aj (pY rs) _) _;unfold pY;rw[iB (by simp;omega)];simp only[aU,List.nil_append];refine Ok.aj (IP (λa Q=>by obtain⟨r,n,_⟩:=JT N a Q;exact⟨r,n⟩) L) λU M=>?_;obtain⟨d,S,q⟩:=Ag k;rw[S,aU];have J:=oZ k;refine au0 (λj:mR=>j.length<=200/\∀c∈j,j2 g root rs c) (λj G=>⟨_,rfl,rfl,G⟩) λV t=>?_;refine au7 (λ(_:bH) (s:kZ×mR)=>s.1=d.map (gb s.2)/\(∀c∈s.2,j2 g root rs c)/\(∀a∈d,gB s.2 a.Hop.aO a.Hop.aJ<=a.b6)/\s.2.length<=200) (λC x r s bf l e u=>?_) _ ⟨?_,λc b=>(by cases b),λa P=>?_,Nat.zero_le _⟩ λs e=>t _ ⟨e.2.2.2,e.2.1⟩
  .obtain⟨aa,j⟩:=s;obtain⟨w,h,o,m⟩:=e;simp only at w h o m;subst w;have vK:x∈U:=by rw[l];simp
   have i:=M.mem_iff.1 vK;obtain⟨T,B⟩:=Option.isSome_iff_exists.1 (y x i);have O:∀c∈j,1<=c.Value:=λc b=>(h c b).val.1;dsimp only;refine au0 (λs:kZ×mR=>s.1=d.map (gb s.2)/\(∀c∈s.2,j2 g root rs c)/\(∀a∈d,gB s.2 a.Hop.aO a.Hop.aJ<=a.b6)/\s.2.length<=200) (λs K=>u _ K) λX v=>?_;refine Ok.cs (λ_=>v _ ⟨rfl,h,o,m⟩) λ_=>?_;refine Ok.aj (KR k q (p x i) B O o) λab D=>?_;obtain⟨H,I,E,W,Y⟩:=D;rw[dO (by omega) (by omega)];refine Ok.cs (λ_=>t _ ⟨m,h⟩) λz=>?_;have z:=of_decide_eq_false z;rw[iB (by omega),aU];refine v _ ⟨H,λc b=>(List.mem_append.1 b).elim (h c) λb=>?_,E,by simp only[List.length_append];omega⟩;have f:=I c b;obtain⟨ae,F,A⟩:=f.hit;rw[List.mem_singleton.1 F]at A;exact⟨f.val,f.iu,f.jr,f.ids,x,i,A⟩
  .show d=d.map (gb []);rw[List.map_congr_left (g:=id) λa _=>Hf a];simp
  .have:=((y9 q J).cost a P).1;show(0:Int)<=_;omega
variable {l:mR}
theorem IA(d:∀c∈l,1<=c.Value/\c.Value<=24000)(e:l.length<=200)(a w:Int):p9 l a w=some (gB l a w):=by
 unfold p9;rw[yb (λc=>jg a w c) l 0 0 (λf c bf g b=>?_) (λc b=>?_) (by omega) (by omega),Int.zero_add]
 .rfl
 .unfold jn;simp only[ob,aU];unfold jg
  grind
 .have:=d c b;unfold jg;split<;>omega
theorem HY(H:cQ g)(ai:root∈ids g)(an:rs.Pairwise (·<·))(R:∀x∈rs,x∈ids g)(T:rs.length<=100000)(Z:∀c∈l,c.aP.length<=1000000):
  Ok (m8 g root rs l) (λr=>(j3 g root rs l->r=(hg l,0))/\(¬j3 g root rs l->r=(0,1))):=by
 unfold m8;rw[nt _ _ _ T,aU,lP H ai an R,decide_eq_true rfl];simp only[Bool.not_true,cond_false];have u:¬j3 g root rs l->Ok (some ((0:Int),(1:Int))) (λr=>(j3 g root rs l->r=(hg l,0))/\(¬j3 g root rs l->r=(0,1))):=λa=>⟨_,rfl,λv=>absurd v a,λ_=>rfl⟩;by_cases az:200<l.length
 .rw[decide_eq_true (by omega),cond_true];exact u λa=>by have:=a.1;omega
 rw[decide_eq_false (by omega),cond_false];refine au7 (λ(e:mR) (s:Int)=>(∀c∈e,j2 g root rs c)/\s=hg e) (λe c r s bf J y X=>?_) _ ⟨λc n=>(by cases n),rfl⟩ λs y=>?_
 .obtain⟨q,rfl⟩:=y;have B:c∈l:=by rw[J];simp
  have ar:e.length<l.length:=by rw[J];simp
  have aw:0<=hg e/\hg e<=24000*e.length:=by
   have:∀e:mR,(∀c∈e,j2 g root rs c)->0<=hg e/\hg e<=24000*e.length:=by
    intro e;induction e with
    |nil=>intro _;exact⟨Int.le_refl _,Int.le_refl _⟩
    |cons x r S=>
     intro a;have:=S λc n=>a c (List.mem_cons_of_mem _ n);have:=(a x List.mem_cons_self).val;unfold hg at *;rw[List.map_cons,List.sum_cons,List.length_cons];omega
   exact this e q
  refine au7 (λ(E:bH) (h:Bool)=>(∀d∈E,d≠root/\d∈ids g)/\(h=true↔∃d∈E,d∈rs)) (λE d aq h W ae A aa=>?_) _ ⟨λd j=>(by cases j),by simp⟩ λh A=>?_
  .have N:d∈c.aP:=by rw[ae];simp
   refine au0 (λk:Bool=>k=false↔d≠root/\d∈ids g) (λk m=>?_) λF p=>?_
   .cases k with
    |true=>
     rw[cond_true];refine u λa=>?_;have f:=a.2.1 c B;have:=m.2 ⟨λD=>f.jr (D▸N),f.ids d N⟩;cases this
    |false=>
     have j:=m.1 rfl;rw[cond_false]
     have O:∀w:Bool,(w=true↔h=true\/d∈rs)->Ok (W w) (λr=>(j3 g root rs l->r=(hg l,0))/\(¬j3 g root rs l->r=(0,1))):=λw Y=>aa _ ⟨λP i=>by
      rcases List.mem_append.1 i with i|i
      .grind
      .rw[List.mem_singleton.1 i];exact j,by
      rw[Y,A.2];constructor
      .grind
      .rintro⟨P,i,a⟩;rcases List.mem_append.1 i with i|i
       .grind
       .rw[List.mem_singleton.1 i]at a;exact .inr a⟩
     cases h with
     |true=>exact O true (by simp)
     |false=>
      rw[cond_false,ob,aU];exact O _ (by simp)
   .by_cases C:d=root
    .grind
    .rw[decide_eq_false C,cond_false,qT,aU,decide_eq_true (iL.2 H),Bool.true_and];refine p _ ?_;rw[Bool.not_eq_false',iZ]
     grind
  .refine au0 (λk:Bool=>k=false↔j2 g root rs c) (λk m=>?_) λF p=>?_
   .cases k with
    |true=>
     rw[cond_true];refine u λa=>?_;have:=m.2 (a.2.1 c B);cases this
    |false=>
     have f:=m.1 rfl;rw[cond_false];have aA:=f.val;rw[dO (by omega) (by omega)];refine X _ ⟨λP i=>?_,?_⟩
     .grind
     .rw[Ma];congr 1;show _=c.Value+0;omega
   .obtain⟨I,G⟩:=A;have fail:¬j2 g root rs c->Ok (F true) (λr=>(j3 g root rs l->r=(hg l,0))/\(¬j3 g root rs l->r=(0,1))):=λa=>p _ ⟨λa=>(by cases a),λv=>absurd v a⟩;cases h with
    |false=>
     refine fail λf=>?_;obtain⟨x,Q,ag⟩:=f.hit;have:=G.2 ⟨x,ag,Q⟩;cases this
    |true=>
     simp only[Bool.not_true,cond_false];rw[BQ _ (Z c B),aU];cases K:gd (λt h:Int=>decide (t<h)) c.aP with
     |false=>
      refine fail λf=>?_;have:mW c.aP=true:=DX f.iu;have D:mW c.aP=gd (λt h:Int=>decide (t<h)) c.aP:=rfl;rw[D,K]at this;cases this
     |true=>
      simp only[Bool.not_true,cond_false];by_cases L:c.Value<1
      .rw[decide_eq_true L,cond_true];exact fail λf=>by have:=f.val;omega
      rw[decide_eq_false L,cond_false];refine p _ ?_;rw[decide_eq_false_iff_not];refine⟨λax=>⟨⟨by omega,by omega⟩,ES K,λaf=>(I root af).1 rfl,λd j=>(I d j).2,?_⟩,λf=>by have:=f.val;omega⟩;obtain⟨d,j,C⟩:=G.1 rfl;exact⟨d,C,j⟩
 .obtain⟨q,rfl⟩:=y;have ab:=λak ao=>IA (λc n=>(q c n).val) (by omega) ak ao
  rw[oV (λb:bU=>decide (b.eE<gB l b.A b.B)||decide (b.eP<gB l b.B b.A)) (some ((0:Int),(1:Int))) g.Links 0 () (λaB b bf s o=>by
   unfold jn;simp only[ab,aU];cases decide (b.eE<gB l b.A b.B)<;>simp)]
  cases M:g.Links.any λb:bU=>decide (b.eE<gB l b.A b.B)||decide (b.eP<gB l b.B b.A)with
  |true=>
   rw[cond_true];refine u λa=>?_;obtain⟨b,o,z⟩:=List.any_eq_true.1 M;simp only[Bool.or_eq_true,decide_eq_true_eq]at z;have U:=a.2.2 _ (oU.2 ⟨b,o,.inl rfl⟩);have V:=a.2.2 _ (oU.2 ⟨b,o,.inr rfl⟩);simp only at U V;omega
  |false=>
   rw[cond_false];refine⟨_,rfl,λ_=>rfl,λa=>absurd ⟨by omega,q,λt am=>?_⟩ a⟩;obtain⟨b,o,z⟩:=oU.1 am;have:=hS.1 M b o;simp only[Bool.or_eq_false_iff,decide_eq_false_iff_not]at this;rcases z with rfl|rfl<;>(simp only;omega)
def Mc{a b:aQ}(h:dV a b=false)(g:a≠b):dV b a=true:=by
 have i:a.aO≠b.aO\/a.aJ≠b.aJ:=by
  apply Classical.byContradiction;intro d;have e:a.aO=b.aO:=Classical.byContradiction λc=>d (.inl c);have f:a.aJ=b.aJ:=Classical.byContradiction λc=>d (.inr c);exact g (by obtain⟨c,k⟩:=a;obtain⟨l,j⟩:=b;simp only at e f;rw[e,f])
 simp[dV]at h ⊢;omega
def mN(l:lR):Prop:=l.Pairwise λa b=>dV a b=true
theorem Md{l:lR}(n:mN l)(Q:l.length<=100000)(b:aQ):Ok (oI l b) (λr=>mN r/\(∀y,y∈r↔y=b\/y∈l)/\r.length<=l.length+1):=by
 unfold oI;refine au2 (λg5:Int=>∃a:Nat,g5=(a:Int)/\a<=l.length/\∀y∈l.take a,dV y b=true) (λg5=>((l.length:Int)-g5).toNat) ⟨0,rfl,Nat.zero_le _,λy e=>by simp at e⟩ (by omega) ?_;rintro g5 bf ⟨a,rfl,S,t⟩ H;refine au0 (λg:Bool=>g=true↔∃d,l[a]?=some d/\dV d b=true) (λg v=>?_) λG h=>?_
 rotate_left
 .by_cases f:a<l.length
  .have c:l[a]?=some l[a]:=List.getElem?_eq_getElem f;generalize l[a]=d at c
   have fin:∀g:Bool,g=dV d b->(g=true↔∃y,l[a]?=some y/\dV y b=true):=λg s=>by
    rw[s,c];simp
   rw[decide_eq_true (by omega),cond_true,cf c,aU];by_cases o:d.aO<b.aO
   .rw[decide_eq_true o,cond_true];exact h _ (fin _ (by simp[dV,o]))
   rw[decide_eq_false o,cond_false];by_cases k:d.aO=b.aO
   .rw[decide_eq_true k,cond_true];exact h _ (fin _ (by simp[dV,k]))
   .rw[decide_eq_false k,cond_false];exact h _ (fin _ (by simp[dV,o,k]))
  .grind
 cases g with
 |true=>
  obtain⟨d,c,T⟩:=v.1 rfl;have f:=(List.getElem?_eq_some_iff.1 c).1;rw[cond_true,dO (by omega) (by omega)];refine H _ ⟨a+1,by simp,f,λy e=>?_⟩ (by omega);rw[List.take_add_one,c,Option.toList_some]at e;rcases List.mem_append.1 e with e|e
  .exact t y e
  .grind
 |false=>
  have N:∀d,l[a]?=some d->dV d b=false:=λd c=>by
   cases m:dV d b with
   |false=>rfl
   |true=>have:=v.2 ⟨d,c,m⟩;cases this
  rw[cond_false];have E:l.take a++l.drop a=l:=List.take_append_drop a l;refine au0 (λg:Bool=>g=true↔∃d,l[a]?=some d/\d=b) (λJ A=>?_) λG h=>?_
  .cases J with
   |true=>
    obtain⟨d,c,rfl⟩:=A.1 rfl;rw[cond_true];refine⟨l,rfl,n,λy=>⟨.inr,λe=>?_⟩,by omega⟩;rcases e with rfl|e
    .grind
    .exact e
   |false=>
    rw[cond_false];refine Ok.aj (mq ⟨by omega,by omega,by omega⟩) λi q=>?_;refine Ok.aj (kG (by have:=q.2;simp;omega)) λj m=>?_;refine Ok.aj (mq ⟨by omega,by omega,by omega⟩) λU C=>?_;have x:=q.1;have z:=C.1;simp at x z;have R:=q.2;have P:=C.2;refine Ok.aj (kG (by rw[m.2];simp;omega)) λF L=>⟨F,rfl,?_⟩;have M:F=l.take a++b::l.drop a:=by rw[L.1,m.1,x,z];rfl
    subst M
    have D:∀u∈l.drop a,dV b u=true:=λu p=>by
     have f:a<l.length:=by grind
     have c:l[a]?=some l[a]:=List.getElem?_eq_getElem f
     have I:l[a]≠b:=λs=>by
      have:=A.2 ⟨_,c,s⟩;cases this
     have B:=Mc (N _ c) I;rw[List.drop_eq_getElem_cons f]at p;rcases List.mem_cons.1 p with rfl|p
     .exact B
     .have w:(l.drop a).Pairwise λi j=>dV i j=true:=n.sublist (List.drop_sublist a l);rw[List.drop_eq_getElem_cons f,List.pairwise_cons]at w;exact tj _ _ _ B (w.1 u p)
    have K:(l.take a).Pairwise λi j=>dV i j=true:=n.sublist (List.take_sublist a l);have O:(l.drop a).Pairwise λi j=>dV i j=true:=n.sublist (List.drop_sublist a l);refine⟨?_,λy=>?_,?_⟩
    .unfold mN;rw[List.pairwise_append];refine⟨K,List.pairwise_cons.2 ⟨D,O⟩,λd c y e=>?_⟩;rcases List.mem_cons.1 e with rfl|e
     .exact t d c
     .exact tj _ _ _ (t d c) (D y e)
    .rw[List.mem_append,List.mem_cons];have:y∈l↔y∈l.take a\/y∈l.drop a:=by
      rw[<-List.mem_append,E]
     rw[this];constructor
     .rintro(b|b|b)
      .exact .inr (.inl b)
      .exact .inl b
      .exact .inr (.inr b)
     .rintro(b|b|b)
      .exact .inr (.inl b)
      .exact .inl b
      .exact .inr (.inr b)
    .have:=congrArg List.length E;rw[List.length_append]at this;rw[List.length_append,List.length_cons];omega
  .by_cases f:a<l.length
   .have c:l[a]?=some l[a]:=List.getElem?_eq_getElem f;generalize l[a]=d at c;rw[decide_eq_true (by omega),cond_true,cf c,aU];refine h _ ?_;rw[qs,c];simp
   .rw[decide_eq_false (by omega),cond_false];refine h _ ⟨λb=>(by cases b),λ⟨d,c,_⟩=>?_⟩;rw[List.getElem?_eq_none (by omega)]at c;cases c
theorem C6{g:Type}{K:(Int×lR)->Option g}{c:g->Prop}:∀(l:bH) (j:Nat) (a:Int) (m:lR),mN m->m.length+l.length<=100000->(∀z b,mN b->(∀y,y∈b↔y∈k6 a l\/y∈m)->b.length<=m.length+l.length->Ok (K (z,b)) c)->
  Ok (bZ l j (λ(A:Int) (e2:Int) (o:(Int×(lR))->Option _) (i:Int×(lR))=>match i with|(s,h)=>aj (oI h (aQ.mk s e2)) λ(d:(lR))=>o (e2,d)) K (a,m)) c
 |[],j,a,m,f,_,e=>e a m f (λy=>by simp[k6]) (by simp)
 |x::r,j,a,m,f,t,e=>by
  rw[List.length_cons]at t;show Ok (aj (oI m (aQ.mk a x)) λd=>bZ r (j+1) _ K (x,d)) c;refine Ok.aj (Md f (by omega) _) λv u=>?_;obtain⟨q,p,B⟩:=u;refine C6 r (j+1) x v q (by omega) λz b k n w=>e z b k (λy=>?_) (by rw[List.length_cons];omega);rw[n,p];show _↔y∈aQ.mk a x::k6 x r\/_;rw[List.mem_cons];constructor
  .grind
  .grind
theorem IB(d:cQ g)(i:root∈ids g)(w:rs.Pairwise (·<·))(h:∀x∈rs,x∈ids g)(C:rs.length<=100)(l:∀x∈rs,(dy g root x).isSome=true):
  Ok (m7 g root rs) (λr=>r.2=0/\r.1.cH=root/\(∀a,a∈r.1.Links↔∃b∈rs,a∈k6 root (e4 g root b))/\mN r.1.Links):=by
 unfold m7;rw[nt _ _ _ (by omega),aU,lP d i w h,decide_eq_true rfl];simp only[Bool.not_true,cond_false];refine Ok.aj (Bs d i h) λb m=>?_;have q:=m.2 λx j=>(x9 d i (h x j)).1 (l x j);subst q;simp only[Bool.not_true,cond_false];refine au7 (λf (c:lR)=>mN c/\(∀a,a∈c↔∃b∈f,a∈k6 root (e4 g root b))/\c.length<=24*f.length) (λf x r c bf k e p=>?_) _ ⟨List.Pairwise.nil,λa=>by simp,by simp⟩ λc e=>⟨_,rfl,rfl,rfl,e.2.1,e.1⟩;have v:x∈rs:=by rw[k];simp
 have B:f.length<rs.length:=by rw[k];simp
 rw[Jy,aU];obtain⟨s,u,D⟩:=e;have hJ:(e4 g root x).length<=24:=by
  have:=JS (l x v);have z:=P6 (t:=g) x root;have:=nJ d;omega
 refine C6 (e4 g root x) 0 root c s (by omega) λE A n o y=>p _ ⟨n,λa=>?_,by simp;omega⟩;rw[o,u];constructor
 .grind
 .grind
theorem C7{α:Type}{R:α->α->Prop}(hi:∀a,¬R a a)(g:∀a b c,R a b->R b c->R a c):∀{a b:List α},a.Pairwise R->b.Pairwise R->(∀x,x∈a↔x∈b)->a=b
 |[],[],_,_,_=>rfl
 |[],y::_,_,_,h=>by have:=(h y).2 (by simp);cases this
 |x::_,[],_,_,h=>by have:=(h x).1 (by simp);cases this
 |x::r,y::s,e,d,h=>by
  rw[List.pairwise_cons]at e d;have i:x=y:=by
   rcases List.mem_cons.1 ((h x).1 (by simp))with f|k
   .exact f
   .rcases List.mem_cons.1 ((h y).2 (by simp))with f|j
    all_goals grind
  subst i;rw[C7 hi g e.2 d.2 λl=>?_];constructor
  .grind
  .grind
def KU{a b:lR}(e:mN a)(d:mN b)(c:∀y,y∈a↔y∈b):a=b:=
 C7 (R:=λa b:aQ=>dV a b=true) (λa c=>by simp[dV]at c) (λa b f=>tj a b f) e d c
def JW{g:aK}{root:Int}{ts:bH}{x:b0×Int×Int}(a:yg g root ts x):(x.2.2=0/\pR (e6 g) root ts x.1.Links x.2.1/\∀t∈ts,dk cR (e6 g) root t)\/(x.2.2=9/\¬∀t∈ts,dk cR (e6 g) root t):=by
 rcases a with⟨e,_,b⟩|⟨rfl,a⟩
 .refine .inl ⟨e,b,λt d=>?_⟩;obtain⟨⟨f,c,_,_⟩,_⟩:=b;exact(c.lZ t d).mono c.sub
 .exact .inr ⟨rfl,a⟩
structure HE(y:aK)(k:Int)(l:List Int):Prop where
 sh:∃a e c,l1 y k l=some (a,e)/\m7 y k l=some (a,e)/\l2 y k l=some (c,e)/\c.length<=1000/\∀x∈c,x.aP.length<=1000
 fm:∃n g,l3 y k l=some (n,g)/\∀{β:Type} {K:(b0×Int×Int)->Option β} {r:β},(∀x,x.2.2=g->K x=some r)->lC y k l K=some r
 AJ:∀w:mR,(∀c∈w,c.aP.length<=1000000)->∃v,lD y k l w=some v/\m8 y k l w=some v
theorem Oh(y:aK)(k:Int){l:bH}(af:l.length<=40):HE y k l:=by
 by_cases f:kO y k l=0
 rotate_left
 .refine⟨⟨b0.mk 0 [],kO y k l,[],?_,?_,?_,by simp,by simp⟩,⟨0,kO y k l,?_,λm=>?_⟩,λj _=>⟨(0,kO y k l),?_,?_⟩⟩
  .unfold l1;rw[kX _ _ _ (by omega),aU,decide_eq_false f];rfl
  .unfold m7;rw[nt _ _ _ (by omega),aU,decide_eq_false f];rfl
  .unfold l2;rw[kX _ _ _ (by omega),aU,decide_eq_false f];rfl
  .unfold l3;rw[nt _ _ _ (by omega),aU,decide_eq_false f];rfl
  .unfold lC;rw[kX _ _ _ (by omega),aU,decide_eq_false f];exact m _ rfl
  .unfold lD;rw[kX _ _ _ (by omega),aU,decide_eq_false f];rfl
  .unfold m8;rw[nt _ _ _ (by omega),aU,decide_eq_false f];rfl
 obtain⟨d,g,h,e⟩:=Mz.1 f
 have X:∀j:mR,(∀A∈j,A.aP.length<=1000000)->∃o,lD y k l j=some o/\m8 y k l j=some o:=λj E=>by
  obtain⟨o,v,w,x⟩:=IN d g h e (by omega) E;obtain⟨ag,F,r,u⟩:=HY d g h e (by omega) E;refine⟨o,v,?_⟩;by_cases M:j3 y k l j
  .grind
  .grind
 have Z:∃B n,l3 y k l=some (B,n)/\∀{P:Type} {C:(b0×Int×Int)->Option P} {N:P},(∀c,c.2.2=n->C c=some N)->lC y k l C=some N:=by
  by_cases G:l.length<=6
  .obtain⟨⟨B,n⟩,q,p,D⟩:=Iw d g h e G;refine⟨B,n,q,λm=>Cz d g h e G λc i=>m c ?_⟩;rcases JW i with⟨L,_,R⟩|⟨L,aa⟩
   all_goals grind
  .refine⟨0,3,?_,λm=>?_⟩
   .unfold l3;rw[nt _ _ _ (by omega),aU,f,decide_eq_true rfl,decide_eq_true (by omega)];rfl
   .unfold lC;rw[kX _ _ _ (by omega),aU,f,decide_eq_true rfl,decide_eq_true (by omega)];exact m _ rfl
 refine⟨?_,Z,X⟩;by_cases z:∀c∈l,(dy y k c).isSome=true
 .obtain⟨⟨⟨ae,W⟩,L⟩,v,w,x,I,J⟩:=Iz d g h e (by omega) z;obtain⟨⟨⟨ab,Y⟩,aa⟩,F,r,u,H,K⟩:=IB d g h e (by omega) z;obtain⟨⟨A,R⟩,q,p,D,s⟩:=JV d g h e (by
   have Q:=qt (a:=l) (b:=ids y) (h.imp λ{a b} M=>by omega) e;have:=nJ d;omega) z
  simp only at w x I J r u H K p D s;subst w x r u p;have U:W=Y:=KU J K λO=>(I O).trans (H O).symm;subst U;refine⟨_,_,A,v,F,q,by omega,λc i=>?_⟩;have Q:=qt (a:=c.aP) (b:=ids y) ((s c i).iu.imp λ{a b} M=>by omega) (s c i).ids;have:=nJ d;omega
 .have t:∃c∈l,dy y k c=none:=by simp_all
  refine⟨_,_,[],JB d g h e (by omega) t,?_,Jz d g h e (by omega) t,by simp,by simp⟩;unfold m7;rw[nt _ _ _ (by omega),aU,f,decide_eq_true rfl];simp only[Bool.not_true,cond_false];obtain⟨b,T,S⟩:=Bs d g e;rw[T,aU];cases b with
  |false=>rfl
  |true=>
   obtain⟨c,i,V⟩:=t;have:=(x9 d g (e c i)).2 (S.1 rfl c i);unfold jZ at this;rw[V]at this;cases this
def Ga{α:Type}{l:List α}(a:l.length<=1000000):dP ([]:List α) l=some l:=by rw[iB (by simp;omega)];simp
def HZ{t:bR}{g:aK}(m:eW t)(o:g.aP.length<=1000/\g.Links.length<=1000):Ok (r9 t g) (λp=>(p.1.aP.length<=g.aP.length+1/\p.1.Links.length<=g.Links.length+1)/\eW p.2):=by
 unfold r9;rw[Ga (by omega),aU,Ga (by omega),aU];refine au0 (λf:bH×Int×oO×oK=>(f.2.2.1.length<=g.aP.length+1/\f.2.2.2.length<=g.Links.length+1)/\eW (bR.mk f.1 f.2.1)) (λs i=>Ok.s i) λn c=>?_;refine Ok.aj (hW m (by omega)) λq d=>Ok.cs (λ_=>?_) λ_=>Ok.cs (λ_=>?_) λ_=>Ok.cs (λ_=>?_) λ_=>?_
 .exact Ok.aj (nQ d.2 (by simp) (by simp)) λk b=>Ok.aj (kG (by simp;omega)) λh e=>c _ ⟨⟨by rw[e.1];simp,by simp⟩,b.2⟩
 .refine Ok.cs (λa=>?_) λ_=>c _ ⟨⟨by simp,by simp⟩,d.2⟩;have a:0<(g.Links.length:Int):=by simpa using a
  refine Ok.aj (hW d.2 (by omega)) λk b=>Ok.aj (nQ b.2 (by simp) (by simp)) λr j=>Ok.aj (hr b.1.1 (b.1.2.1 (by omega))) λl _=>?_;exact Ok.aj (uI b.1.1 (b.1.2.1 (by omega))) λh e=>c _ ⟨⟨by simp,by simp only[e.2];omega⟩,j.2⟩
 .refine Ok.cs (λa=>?_) λ_=>c _ ⟨⟨by simp,by simp⟩,d.2⟩;have a:0<(g.Links.length:Int):=by simpa using a
  exact Ok.aj (hr (by omega) a) λl _=>Ok.aj (kG (by simp;omega)) λh e=>c _ ⟨⟨by simp,by rw[e.1];simp⟩,d.2⟩
 .refine Ok.cs (λa=>?_) λ_=>c _ ⟨⟨by simp,by simp⟩,d.2⟩;have a:0<(g.aP.length:Int):=by simpa using a
  exact Ok.aj (mq ⟨by omega,by omega,by omega⟩) λh e=>c _ ⟨⟨by have:=e.2;simp only;omega,by simp⟩,d.2⟩
def eq_refl(x:aQ):gH x x=true:=(qs x x).2 rfl
def JC(x:b0):sw x x=some true:=by
 unfold sw;simp only[decide_true,Bool.not_true,Bool.or_false,cond_false];refine Ok.eq (au7 (λ_ _=>True) (λf e g c bf b d a=>?_) _ trivial λc _=>⟨_,rfl,rfl⟩);rw[b,Fx,aU,eq_refl];exact a _ trivial
theorem RN(t:bH)(p:aK)(k:b0)(n:bH)(d:mR)(root:Int)(X:d.length<=140737488351232)(D:∀c∈d,c.aP.length<=140737488351232):vV t p k n d root=some true:=by
 refine Ok.eq ?_;unfold vV;refine au0 (λi:Bool=>i=false->(p.aP.length<=30/\p.Links.length<=70)/\k.Links.length<=40/\n.length<=40/\∀c∈d,c.aP.length<=1000) (λi b=>?_) λag j=>?_
 rotate_left
 .unfold v2;rw[aU];by_cases H:p.aP.length<=30/\p.Links.length<=70
  rotate_left
  .grind
  rw[decide_eq_true (by omega:(p.aP.length:Int)<=30),decide_eq_true (by omega:(p.Links.length:Int)<=70)];simp only[Bool.and_self,Bool.not_true,cond_false];refine Ok.cs (λ_=>j _ λh=>by cases h) λy=>Ok.cs (λ_=>j _ λh=>by cases h) λf=>?_;have y:=of_decide_eq_false y;have f:=of_decide_eq_false f;refine Ok.aj (JU X D) λz o=>j _ λh=>?_
  grind
 cases i with
 |true=>rw[cond_true,EJ];exact⟨_,rfl,rfl⟩
 |false=>
 obtain⟨H,aD,O,aF⟩:=b rfl;rw[cond_false];refine Ok.aj (PV t) λs e=>Ok.aj (ID e (by omega)) λab E=>?_;obtain⟨g,t1⟩:=ab;obtain⟨G,F⟩:=E;have b:cQ g:=G.v;have aA:=b.jr;have ao:=b.nl;dsimp only;refine Ok.aj (Jp (g:=g) F (by omega)) λA Y=>?_;refine Ok.aj (Ld (g:=g) Y.2 (by omega) (by omega)) λaM v=>?_;refine Ok.aj (HZ (g:=g) v.2 (by omega)) λaC P=>?_;have aq:=v.1.2.2;refine au7 (λ_ (a:bH×Int)=>eW (bR.mk a.1 a.2)) (λax af aV a bf an r I=>?_) _ P.2 λa r=>?_
 rotate_left
 .rw[EJ];exact⟨_,rfl,rfl⟩
 obtain⟨aR,aS⟩:=a;dsimp only;refine Ok.aj (Le (root:=A.1) r b) λw x=>?_;have aE:w.1.Links.length<=90000:=by
  have:=x.1.len;omega
 rw[oV (λ_:b0=>false) (some false) [k,w.1,b0.mk A.1 []] 0 () (λaa B bf s m=>by
  have gK:B.Links.length<=90000:=by grind
  rw[L8 _ _ gK,aU,Jv _ _ gK,aU];unfold jn;simp only[decide_true,Bool.not_true,cond_false];rw[Bu _ _ _ gK (by omega),aU,Bm _ _ _ gK (by omega),aU];simp only[decide_true,Bool.not_true,cond_false];rw[Bu _ _ _ gK (by omega),aU,Bm _ _ _ gK (by omega),aU];simp)]
 rw[List.any_eq_false.2 (λ_ _=>by simp),cond_false];refine avh (λ_ (a:bH×Int)=>eW (bR.mk a.1 a.2)) 0 2 (λZ a am aw ai l az=>?_) (λZ a _ _ l=>I _ l) _ _ _ rfl (by omega) (by omega) x.2;obtain⟨J,N⟩:=a;dsimp only;refine au0 (λs:Int×bH=>s.2.length<=40) (λs e=>?_) λak u=>Ok.cs (λ_=>u _ O) λ_=>u _ (by simp only;omega);obtain⟨K,aB⟩:=s;simp only at e;dsimp only;obtain⟨⟨ar,aI,c,S,T,U,V,W⟩,⟨aT,aG,Q,R⟩,C⟩:=Oh af K e;rw[S,aU,T,aU];refine⟨true,R λB m=>Ok.eq ?_,rfl⟩;rw[Q,aU,U,aU,JC];unfold jn;simp only[m,decide_true,Bool.not_true,cond_false,aU];refine Ok.aj (KS (s:=bR.mk J N) l V W) λz o=>?_
 rw[oV (λ_:mR=>false) (some false) [d,c,z.1] 0 () (λaa ae bf s q=>by
  obtain⟨i,M,L⟩:=C ae (by
   simp only[List.mem_cons,List.not_mem_nil,or_false]at q;rcases q with rfl|rfl|rfl
   .grind
   .grind
   .intro c f;have:=o.2.2 c f;omega)
  rw[M,aU,L,aU];simp)]
 simp_all
end
end Go.Proofs.YtmnbolcmepihlaaGreat
