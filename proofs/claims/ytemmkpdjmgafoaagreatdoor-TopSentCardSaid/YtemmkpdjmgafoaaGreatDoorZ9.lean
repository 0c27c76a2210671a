/- A part of the proof; the last text says of what. No condition but those that stand in each. -/
import Derived.Test.YtemmkpdjmgafoaaGreatDoorPN
import Derived.Test.YtemmkpdjmgafoaaGreatDoorZ7
import Derived.Test.YtemmkpdjmgafoaaGreatDoorZ6
namespace Go.Proofs.YtemmkpdjmgafoaaGreatDoor
set_option linter.all false
section
open Go
structure iF(B:Int)(R:List bV)(f:aQ):Prop where
 v:dj f
 n:1<=f.aM.length
 own:∀n∈f.aM,(1<=n.Seq/\n.Seq<=B)/\look n.Database n.ai=some (jV f n)
 old:∀n∈f.aM,∀s a,look n.Database s=some a->a.Seq<=B
 ng:∀m∈f.bg,∀s a,look m.Database s=some a->a.Seq<=B
 r:(a0 f).bf=R
variable {B:Int}{f:aQ}
def iF.mono{C:Int}{R:uX}(h:iF B R f)(S:B<=C):iF C R f:=⟨h.v,h.n,λn H=>⟨⟨(h.own n H).1.1,by have:=(h.own n H).1.2;omega⟩,(h.own n H).2⟩,λn H s a O=>by have:=h.old n H s a O;omega,λm Q s a O=>by have:=h.ng m Q s a O;omega,h.r⟩
def iF.PR{R:uX}(h:iF B R f)(Q:0<=B/\B<=900000):fe B f:=⟨Q,h.v,λn H=>⟨(h.own n H).1.1,by have:=(h.own n H).1.2;omega,(h.own n H).2⟩,λn H s a O=>.inl (h.old n H s a O),λm S s a O=>.inl (h.ng m S s a O)⟩
def fe.hd(h:fe B f)(H:1<=f.aM.length):iF (B+1) (a0 f).bf f:=by
 have Q:∀a,yn B f a->a.Seq<=B+1:=λa O=>by
  rcases O with O|⟨n,H,_,O⟩
  .omega
  .have:=(h.own n H).2.1;omega
 exact⟨h.v,H,λn H=>⟨⟨(h.own n H).1,(h.own n H).2.1⟩,(h.own n H).2.2⟩,λn H s a O=>Q a (h.old n H s a O),λm S s a O=>Q a (h.ng m S s a O),rfl⟩
variable {M:sD}
def iF.msgs{R:uX}(h:iF B R f)(H:dj (aQ.mk f.Links f.aM M))(O:∀m∈M,∀s a,look m.Database s=some a->a.Seq<=B):iF B R (aQ.mk f.Links f.aM M):=⟨H,h.n,h.own,h.old,O,h.r⟩
def Nh(h:dj f)(a:M.length<=400)(c:∀m∈M,m∈f.bg):dj (aQ.mk f.Links f.aM M):=⟨h.t,a,h.n,λm b=>h.g m (c m b)⟩
variable {a:a6}
def YN{b:a6}(d:eC a=true)(c:eC b=true)(e:a.ai=b.ai)(f:b.Seq<a.Seq):m7 a b=true:=by
 simp[m7,d,c,e,hh,f]
def GW{d:bM}(c:eK d)(f:eC a=true)(h:∀x,look d a.ai=some x->x.Seq<a.Seq):∀s,look (jx d a).1 s=if s=a.ai then some a else look d s:=λs=>by
 rw[Gu c f s];by_cases b:s=a.ai
 .rw[bx b,bx b,b];cases e:look d a.ai with
  |none=>rfl
  |some x=>
   obtain⟨i,g⟩:=(m2 c).1 e;have:=YN f (c.ok x i) g.symm (h x e);simp only[hT,this,cm]
 .rw[bw b,bw b]
theorem Xk{R:uX}(h:iF B R f)(M:1<=B)(r:Int):Ok (AP f r) (λp=>p.2=0->iF (B+1) R p.1):=by
 unfold AP;have i:=h.v;rcases yq f r with⟨x,_⟩|⟨a,n,b,g,N,z⟩
 .rw[(Cr i x).1,(Cr i x).2];exact Ok.s (λH=>by cases H)
 .subst z;have w:n∈f.aM:=by rw[g];simp
  have q:=i.n n w;have I:b6 f.aM (a.length:Int)=some n:=by rw[g];exact iy a n b
  have J:gB f.aM (a.length:Int)=λm=>some (a++m::b):=by funext m;rw[g];exact s2 a n m b
  have k:eK (bM.mk []):=⟨by simp,by simp,by simp⟩;rw[Gb i g];simp only[dV,I,J,aR,ef,dk,bH,iy,s2];have D:dj (eP f a (br.mk n.ai 1 n.bK n.Claims (bM.mk [])) b):=i.eP g rfl rfl ⟨⟨by show(0:Int)<=1;decide,by show(1:Int)<=1000000;decide⟩,q.2.1,k⟩;have C:=C0 D (a:=a) (b:=b) (n:=br.mk n.ai 1 n.bK n.Claims (bM.mk [])) rfl (by show(1:Int)<=1;decide);rw[show aQ.mk f.Links (a++br.mk n.ai 1 n.bK n.Claims (bM.mk [])::b) f.bg=eP f a (br.mk n.ai 1 n.bK n.Claims (bM.mk [])) b from rfl,C];simp only[aR,F2];refine Ok.s λ_=>?_;have F:=oT (n':=br.mk n.ai 1 n.bK n.Claims (bM.mk [])) g rfl rfl;have G:jf (eP f a (br.mk n.ai 1 n.bK n.Claims (bM.mk [])) b) (br.mk n.ai 1 n.bK n.Claims (bM.mk []))=jf f (br.mk n.ai 1 n.bK n.Claims (bM.mk [])):=by
   unfold jf;rw[F]
  rw[G];have E:eC (eZ (a0 f) n.ai 1 n.Claims)=true:=zc i w (by omega);have jj:=GW k E (λe c=>by cases c);have v:=i.Ep g (n:=br.mk n.ai 1 n.bK n.Claims (bM.mk [])) rfl rfl (by show(1:Int)<=1/\(1:Int)<=1000000;decide) q.2.1 k;have l:=oT (n':=jf f (br.mk n.ai 1 n.bK n.Claims (bM.mk []))) g rfl rfl;generalize u:jf f (br.mk n.ai 1 n.bK n.Claims (bM.mk []))=n' at v l ⊢
  have t:∀e∈(eP f a n' b).aM,e∈f.aM\/e=n':=λe c=>by
   have c:e∈a++n'::b:=c;rw[g];rcases dG.1 c with c|c
   .grind
   .grind
  refine⟨v,by show 1<=(a++n'::b).length;simp;omega,λe c=>?_,λe c s j d=>?_,λL K s j d=>by have:=h.ng L K s j d;omega,by rw[l];exact h.r⟩
  .unfold jV;rw[l];rcases t e c with c|rfl
   .obtain⟨⟨y,O⟩,A⟩:=h.own e c;exact⟨⟨y,by omega⟩,A⟩
   .rw[<-u];refine⟨⟨by show(1:Int)<=1;decide,by show 1<=B+1;omega⟩,?_⟩;show look (jx (bM.mk []) (eZ (a0 f) n.ai 1 n.Claims)).1 n.ai=_;rw[jj];exact bx rfl
  .rcases t e c with c|rfl
   .have:=h.old e c s j d;omega
   .rw[<-u]at d;have d:look (jx (bM.mk []) (eZ (a0 f) n.ai 1 n.Claims)).1 s=some j:=d;rw[jj]at d;by_cases o:s=(eZ (a0 f) n.ai 1 n.Claims).ai
    .rw[bx o]at d;rw[<-qw d];show(1:Int)<=B+1;omega
    .rw[bw o]at d;cases d
def Z7{R:uX}(h:iF B R f)(r:Int):Ok (Bg f r) (λp=>p.2=0->iF (B+1) R p.1):=by
 unfold Bg;have c:=h.v;rcases yq f r with⟨m,_⟩|⟨a,j,u,d,t,q⟩
 .rw[(Cr c m).1,(Cr c m).2];exact Ok.s (λg=>by cases g)
 .subst q;have l:j∈f.aM:=by rw[d];simp
  have v:=c.m;rw[Gb c d];have k:=Nd c d f.bg (by omega);rw[show aQ.mk f.Links f.aM f.bg=f from rfl]at k;simp only[dV,aR,ef,dk,bH,k];refine Ok.cs (λ_=>Ok.s (λg=>by cases g)) λe=>Ok.s λ_=>?_;have e:(f.bg++rU f j).length<=400:=by have:=of_decide_eq_false e;omega
  refine(h.mono (by omega)).msgs ⟨c.t,e,c.n,λi b=>?_⟩ λi b s o n=>?_
  .rcases dG.1 b with b|b
   .exact c.g i b
   .exact Lv c l b
  .rcases dG.1 b with b|b
   .have:=h.ng i b s o n;omega
   .unfold rU at b;obtain⟨w,_,rfl⟩:=dg.1 b;have:=h.old j l s o n;omega
def Z8{R:uX}(h:iF B R f)(k:Int):Ok (Bb f k) (λp=>p.2=0->iF (B+1) R p.1):=by
 unfold Bb;have b:=h.v;have a:=b.m;by_cases e:0<=k/\k<f.bg.length
 .obtain⟨p,n,g,d,rfl⟩:=Na e;rw[KR b e];simp only[dV,aR,ef,dk,bH];rw[show qG f.bg (p.length:Int) (a2 ((p.length:Int)+1))=some (p++g)by rw[d];exact Nf p n g (by rw[<-d];omega),aR];have i:∀c∈p++g,c∈f.bg:=λc a=>by rw[d];rcases dG.1 a with a|a<;>simp[a]
  exact Ok.s λ_=>(h.mono (by omega)).msgs (Nh b (by rw[d]at a;simp at a ⊢;omega) i) λc j s o m=>by have:=h.ng c (i c j) s o m;omega
 .rw[(B7 b e).1,(B7 b e).2];exact Ok.s (λl=>by cases l)
theorem Xl{R:uX}(h:iF B R f)(v:0<=B/\B<=900000)(k:Int):Ok (AQ f k) (λp=>p.2=0->iF (B+1) R p.1):=by
 unfold AQ;have b:=h.v;have c:=b.m;by_cases i:0<=k/\k<f.bg.length
 .obtain⟨p,x,q,m,rfl⟩:=Na i
  have t:∀d∈x::(p++q),d∈f.bg:=λd c=>by
   rw[m];rcases c5.1 c with rfl|c
   .simp
   .grind
  have n:iF B R (aQ.mk f.Links f.aM (x::(p++q))):=h.msgs (Nh b (by rw[m]at c;simp at c ⊢;omega) t) λd A s O L=>h.ng d (t d A) s O L;have j:=(KB (n.PR v) (x:=x) (q:=p++q) rfl).1;have M:oH (ea.mk f) (p.length:Int)=some (ea.mk (gq (aQ.mk f.Links f.aM (x::(p++q))))):=by
   obtain⟨_,_,_,C,y⟩:=tq n.v (x:=x) (q:=p++q) rfl;obtain⟨d1,d2⟩:=K5 b m;cases e:eO (a0 f) x.dx x.bS with
   |false=>rw[d1 e,C e];rfl
   |true=>
    obtain⟨a,Q,P,u,G,H,_⟩:=d2 e;obtain⟨o,N,E,g,I,J⟩:=y e;have g:f.aM=o++N::E:=g;have r:=b.idx u;have F:=b.idx g;rw[G]at r;rw[I,r]at F;have w:a.length=o.length:=by omega
    obtain⟨z,l⟩:=List.append_inj (u.symm.trans g) w;injection l with l D
    subst z l D;rw[H,J];rfl
  rw[KR b i];simp only[dV,aR,ef,dk,bH,M];refine Ok.s λ_=>?_;have:=j.rd.hd (by rw[j.len];exact h.n);rw[j.top]at this;rw[<-h.r];exact this
 .rw[(B7 b i).1,(B7 b i).2];exact Ok.s (λK=>by cases K)
theorem LB{R:uX}(h:iF B R f)(E:0<=B/\B<=900000){L:mJ}(m:L.length<=100000):Ok (qT f L) (λp=>p.2=0->iF (B+1) R p.1):=by
 have i:=h.v;have x:rE (dA f L):=⟨m,i.sm.2⟩;cases n:tj (dA f L)with
 |false=>
  have j:qT f L=some (aQ.mk [] [] [],1):=by
   unfold qT;rw[MF i.wc,aR,vB m,aR];simp only[jn];rw[show aQ.mk L f.aM f.bg=dA f L from rfl,oV i.sm,oV x,n,n5.2 i];rfl
  rw[j];exact Ok.s (λA=>by cases A)
 |true=>
  have l:=n5.1 n;rw[XC i l];refine Ok.s λ_=>?_;obtain⟨z,y⟩:=XB l
  have G:∀b∈f.aM,((1<=(e6 (a0 f) (a0 (dA f L)) b).Seq/\(e6 (a0 f) (a0 (dA f L)) b).Seq<=B+1)/\look (e6 (a0 f) (a0 (dA f L)) b).Database (e6 (a0 f) (a0 (dA f L)) b).ai=some (eZ (a0 (dA f L)) (e6 (a0 f) (a0 (dA f L)) b).ai (e6 (a0 f) (a0 (dA f L)) b).Seq (e6 (a0 f) (a0 (dA f L)) b).Claims))/\∀s a,look (e6 (a0 f) (a0 (dA f L)) b).Database s=some a->a.Seq<=B+1:=λb e=>by
   obtain⟨⟨o,F⟩,r⟩:=h.own b e;have u:=i.n b e;cases k:oD (a0 f) (a0 (dA f L)) b with
   |false=>
    have j:e6 (a0 f) (a0 (dA f L)) b=b:=by unfold e6;rw[k];rfl
    rw[j];refine⟨⟨⟨o,by omega⟩,?_⟩,λs a c=>by have:=h.old b e s a c;omega⟩;rw[r];have t:b.Seq<1000000:=by omega
    simp only[oD,o,t,ef,hq,qz]at k;unfold jV;rw[(yG _ _).1 k]
   |true=>
    have j:e6 (a0 f) (a0 (dA f L)) b=br.mk b.ai (b.Seq+1) b.bK b.Claims (jx b.Database (eZ (a0 (dA f L)) b.ai (b.Seq+1) b.Claims)).1:=by unfold e6;rw[k];rfl
    rw[j];have w:eC (eZ (a0 (dA f L)) b.ai (b.Seq+1) b.Claims)=true:=zc l (show b∈(dA f L).aM from e) (by omega)
    have jj:=GW u.2.2 w (λg d=>by
     have d:look b.Database b.ai=some g:=d;rw[r]at d;rw[<-qw d];show b.Seq<b.Seq+1;omega)
    refine⟨⟨⟨by show 1<=b.Seq+1;omega,by show b.Seq+1<=B+1;omega⟩,?_⟩,λs a c=>?_⟩
    .show look (jx b.Database (eZ (a0 (dA f L)) b.ai (b.Seq+1) b.Claims)).1 b.ai=_;rw[jj];exact bx rfl
    .have c:look (jx b.Database (eZ (a0 (dA f L)) b.ai (b.Seq+1) b.Claims)).1 s=some a:=c;rw[jj]at c;by_cases q:s=(eZ (a0 (dA f L)) b.ai (b.Seq+1) b.Claims).ai
     .rw[bx q]at c;rw[<-qw c];show b.Seq+1<=B+1;omega
     .rw[bw q]at c;have:=h.old b e s a c;omega
  have v:∀g∈(wE f L).aM,∃b∈f.aM,g=e6 (a0 f) (a0 (dA f L)) b:=λg d=>by
   obtain⟨b,e,rfl⟩:=dg.1 d;exact⟨b,e,rfl⟩
  refine⟨z,?_,λg d=>?_,λg d s a c=>?_,λD C s a c=>?_,by rw[y];exact h.r⟩
  .have:=h.n;show 1<=(f.aM.map _).length;simp;omega
  .obtain⟨b,e,rfl⟩:=v g d;unfold jV
   grind
  .grind
  .have:=h.ng D (gz.1 C).1 s a c;omega
def i3{α σ β:Type}{B:Int->α->(σ->Option β)->σ->Option β}{K:σ->Option β}{L:List α}(S:List α->σ)(v:Option β)(b:K (S L)=v)
  (a:∀p x r a4,p++x::r=L->a4 (S (p++[x]))=v->B (p.length:Int) x a4 (S p)=v):∀(l p:List α),p++l=L->bC l p.length B K (S p)=v
 |[],p,h=>by rw[l5]at h;subst h;exact b
 |x::r,p,h=>by
  have:=i3 (B:=B) (K:=K) S v b a r (p++[x]) (by simpa using h);rw[dF]at this;exact a p x r _ h this
def zZ(t:aS)(x:cT)(L:List (Int×bX))(r:Int):jK:=
 bif decide (r=x.ai)then some [r]else af (hW t x.ai) λa=>bif a then xW t L r else some []
def dW(p:en)(W:cT->Int->bX)(es:zw)(r:Int):cH:=cH.mk r p.bA p.Length (es.map λa=>eR.mk a.aP (W a r))
variable {p:en}{t:aS}
theorem WW{dn:bX}(W:cT->Int->bX)(F:dn≠[])(M:dn.length<=1000000)(K:p.ck.length<=1000000)
  (w:∀x∈p.ck,∃L,qU t x.ai=some L/\∀r∈dn,zZ t x L r=some (W x r)):BB t p dn=some (dn.map (dW p W p.ck)):=by
 unfold BB;refine i3 (L:=dn) (λb=>b.map (dW p W [])) _ ?_ (λb r E a4 g i=>?_) dn [] rfl
 .have v:(!(dn.map (dW p W [])).isEmpty&&(dn.map (dW p W [])).all λx=>x.Rows.isEmpty)=true:=by
   cases dn with
   |nil=>exact absurd rfl F
   |cons a l=>simp[dW]
  rw[jT v];refine i3 (L:=p.ck) (λd=>dn.map (dW p W d)) _ rfl (λd x E a4 I i=>?_) p.ck [] rfl;have o:x∈p.ck:=by rw[<-I];simp
  have J:d.length<1000000:=by grind
  obtain⟨L,s,n⟩:=w x o;rw[s,aR];refine(i3 (L:=dn) (λb=>b.map (dW p W (d++[x]))++(dn.drop b.length).map (dW p W d)) _ ?_ (λb r h u g z=>?_) dn [] rfl)
  .grind
  .have D:r∈dn:=by rw[<-g];simp
   have H:dn.drop b.length=r::h:=by rw[<-g];simp
   have A:dn.drop (b++[r]).length=h:=by rw[<-g];simp
   have e:=n r D;have B:b.length<1000000:=by grind
   have m:af (b6 (b.map (dW p W (d++[x]))++(dn.drop b.length).map (dW p W d)) (b.length:Int)) (λ(f:cH)=>af (dm f.Rows ([(eR.mk x.aP (W x r))]:List eR)) λ(q:List eR)=>af (gB (b.map (dW p W (d++[x]))++(dn.drop b.length).map (dW p W d)) (b.length:Int) (cH.mk f.ai f.bA f.Length q)) λ(y:yz)=>u y)=some (dn.map (dW p W p.ck)):=by
    rw[H,dr];have k:=iy (b.map (dW p W (d++[x]))) (dW p W d r) (h.map (dW p W d));rw[iO]at k;rw[k,aR,g9 (by simp[dW];omega),aR];have G:gB (b.map (dW p W (d++[x]))++dW p W d r::h.map (dW p W d)) (b.length:Int) (cH.mk (dW p W d r).ai (dW p W d r).bA (dW p W d r).Length ((dW p W d r).Rows++[eR.mk x.aP (W x r)]))=some ((b++[r]).map (dW p W (d++[x]))++(dn.drop (b++[r]).length).map (dW p W d)):=by
     unfold gB;rw[bx (by simp;omega),A];simp[dW,List.set_append]
    rw[G,aR];exact z
   unfold jn;unfold zZ at e;by_cases C:r=x.ai
   .grind
   .simp only[C,jQ,bH]at e ⊢;cases j:hW t x.ai with
    |none=>rw[j]at e;cases e
    |some c=>
     rw[j,aR]at e;rw[aR];cases c with
     |true=>
      simp only[cm]at e ⊢;rw[e,aR];exact m
     |false=>
      simp only[bH,ee]at e ⊢;rw[e];exact m
 .have B:b.length<1000000:=by grind
  rw[g9 (by simp;omega),aR];rw[show b.map (dW p W [])++[cH.mk r p.bA p.Length []]=(b++[r]).map (dW p W [])by simp[dW]];exact i
def Ys{l:bX}(h:l.Pairwise (·<·)):hS l=l:=yD (CG (h.imp λh a=>by omega)) h λ_=>Cn
variable {r:Int}
theorem aah{L:List (Int×bX)}(g:∀n∈(aO L r).getD [],hW t n=some true)(c:((aO L r).getD []).Pairwise (·<·))(i:((aO L r).getD []).length<=1000000):xW t L r=some ((aO L r).getD []):=by
 unfold xW
 have h:xL fuel r L [] t.bf t.Links []=some (((aO L r).getD []).map λn=>(n,true),(aO L r).getD []):=by
  rw[show fuel=1099511627775+1 from rfl];unfold xL;refine i3 (L:=(aO L r).getD []) (λp=>(p,p.map λn=>(n,true))) _ rfl (λp a k a4 b j=>?_) _ [] rfl
  have d:a∉p:=λd=>by
   rw[<-b,mG]at c;have:=c.2.2 a d a (by simp);omega
  have e:aO (p.map λn=>(n,true)) a=none:=by
   unfold aO
   grind
  have f:=fq List.length b;simp at f;unfold jn;simp only[e,Option.getD_none,bH,g a (by rw[<-b];simp),aR,cm];rw[g9 (by simp;omega),aR,yB _ e]
  grind
 rw[h,aR,jT (by simp;omega),Ys c]
def Yt(W:cT->Int->bX)(i:k6 t=some 0)(c:nI p=some true)(b:lM t r=some true)(k:hW t r=some true)(e:p.ck.length<=1000000)
  (j:∀x∈p.ck,∃L,qU t x.ai=some L/\zZ t x L r=some (W x r)):p3 t p r=some (dW p W p.ck r,0):=by
 have a:=WW (dn:=[r]) W (by simp) (by simp) e λx d=>by
  obtain⟨L,g,h⟩:=j x d;exact⟨L,g,λl f=>by rw[gL.1 f];exact h⟩
 unfold p3 jn;simp only[i,c,b,k,a,aR,ef,dk,bH];rfl
theorem LI{B:Int->Int->List (Int×bX)->Option (List (Int×bX))}(b:Int->bX)(e:∀n v m,B n v m=some (bW m n (b n))):∀(l:List (Int×Int)) (a:List (Int×bX)),fm l->(∀p∈l,aO a p.1=none)->
  hb B l a=some (a++l.map λp=>(p.1,b p.1))
 |[],a,_,_=>by simp[hb]
 |p::r,a,hk,h=>by
  have f:p.1∉r.map (·.1)/\fm r:=jX.1 hk;simp only[hb,e];rw[yB _ (h p (by simp)),LI b e r _ f.2 λc d=>?_]
  .simp
  .have i:=h c (by simp[d]);have j:p.1≠c.1:=λg=>f.1 (by rw[g];exact dg.2 ⟨c,d,rfl⟩);unfold aO at i ⊢
   grind
def MS{α β:Type}(f:Int->β):∀(l:List (Int×α)) (n:Int),aO (l.map λp=>(p.1,f p.1)) n=(aO l n).map λ_=>f n
 |[],n=>rfl
 |p::r,n=>by
  simp only[dr,h9];by_cases a:p.1=n
  .subst a;simp
  .simp only[bw a];exact MS f r n
theorem LJ{t:aS}(e:cE t)(b:Int):∃L,qU t b=some L/\∀r,(aO L r).getD []=hK t b r:=by
 obtain⟨g,y,f⟩:=Nk e;have B:∃a,pV g.nc b=some a/\fm a/\∀v,aO a v=fH t v b:=by
  by_cases n:b∈ids t
  .obtain⟨a,s,i,j,_⟩:=Ic f.sq n;obtain⟨c,l,q⟩:=Pb e f b
   grind
  .obtain⟨c,l,q⟩:=Pb e f b;have p:pV g.nc b=some []:=Nj (by
    have:=f.sq.keys b;cases z:(aO g.nc b).isSome with
    |false=>rfl
    |true=>exact absurd (this.1 z) n)
   rw[p]at l;cases l
   exact⟨[],p,nx,q⟩
 obtain⟨a,s,i,j⟩:=B;have x:∀(d C:Int) (m:List (Int×bX)),(af (w5 g a d) λ(w:(bX))=>some (bW m d w))=some (bW m d (hK t b d)):=λd C m=>by rw[Yq e f j d];rfl
 refine⟨a.map λu=>(u.1,hK t b u.1),?_,λr=>?_⟩
 .unfold qU;rw[Yp,aR,ho.2 e];simp only[ef,dk,bH];rw[y,aR,s,aR];unfold CL;have o:=λ(c:List (Int×Int)) (h:c.Perm a)=>LI (hK t b) x c [] ((h.symm.map _).nodup i) (λ_ _=>rfl);rw[o a (.refl a)];simp only[lC];rw[bx];refine⟨λc h=>⟨_,o c h,?_⟩,?_⟩
  .grind
  .erw [nv];exact i
 .rw[MS,j];cases A:fH t r b with
  |none=>rw[K8 A];rfl
  |some k=>rfl
noncomputable def eG(t:aS)(x:cT)(r:Int):bX:=bif decide (r=x.ai)then[r]else hK t x.ai r
def aai{t:aS}(a:cE t)(c:∀n∈ids t,hW t n=some true){x:cT}(d:x.ai∈ids t):∃L,qU t x.ai=some L/\∀r,zZ t x L r=some (eG t x r):=by
 obtain⟨L,f,b⟩:=LJ a x.ai;refine⟨L,f,λr=>?_⟩;unfold zZ eG;cases decide (r=x.ai)
 .have g:(hK t x.ai r).length<=24:=gP (oz _ _) (Ge a r);rw[bH,bH,c _ d,aR,cm,aah (by rw[b];exact λn e=>c n (yQ a e)) (by rw[b];exact K9 a _ _) (by rw[b];omega),b]
 .rfl
def LK{t:aS}{p:en}(d:cE t)(k:k6 t=some 0)(e:nI p=some true)(b:∀n∈ids t,hW t n=some true)(i:∀n∈ids t,lM t n=some true)
  (g:p.ck.length<=1000000) (l:∀x∈p.ck,x.ai∈ids t):∀r∈ids t,p3 t p r=some (dW p (eG t) p.ck r,0):=
 λr a=>Yt (eG t) k e (i r a) (b r a) g λx f=>by
  obtain⟨c,h,j⟩:=aai d b (l x f);exact⟨c,h,j r⟩
def oi(o:c1):Bool:=dT o.ai 1 99&&iM o.Claim
def oO(a b:c1):Prop:=a.ai<b.ai\/a.ai=b.ai/\a.Claim.bA<b.Claim.bA
structure ql(l:List c1):Prop where
 n:l.length<=192
 g:∀o∈l,oi o=true
 s:l.Pairwise oO
def tO(n a b:Int):lN n a b=some (dT n a b):=rfl
variable {o:c1}
def X9(h:oi o=true):xe o=some false:=by
 unfold oi iM at h;simp only[b9]at h;obtain⟨d,⟨a,b⟩,c⟩:=h;unfold xe;simp only[tO,d,a,b,tV,c,aR,dk,bH]
variable {l:p6}
theorem MT(h:ql l):xn l=some 0:=by
 have r:=h.n;have q:decide ((192:Int)<(l.length:Int))=false:=ff (by omega);have i:sp l xe=some false:=by
  unfold sp Ad
  rw[show(bC l 0 _ _ ())=some (-1:Int)from i3 (L:=l) (λ_=>()) _ rfl (λd b g a4 e f=>by
   rw[X9 (h.g b (by rw[<-e];simp))];exact f) l [] rfl]
  rfl
 unfold xn;rw[q,i];simp only[bH,aR];refine i3 (L:=l) (λ_=>()) _ rfl (λd b g a4 e f=>?_) l [] rfl;unfold jn;by_cases m:0<d.length
 .obtain⟨c,a,rfl⟩:∃c a,d=c++[a]:=⟨d.dropLast,d.getLast (λn=>by simp[n]at m),(zS _).symm⟩;have o:b6 l (a2 (((c++[a]).length:Int)-1))=some a:=by
   have k:=fq List.length e;simp at k;rw[kV (by omega) (by simp;omega),<-e];have:=iy c a (b::g);simpa using this
  have j:oO a b:=by
   have:=h.s
   grind
  have p:decide ((0:Int)<=mw [eB a.ai b.ai,eB a.Claim.bA b.Claim.bA])=false:=by
   refine ff ?_;have t:eB a.ai b.ai<0↔a.ai<b.ai:=vy;have u:eB a.ai b.ai=0↔a.ai=b.ai:=oZ;have v:eB a.Claim.bA b.Claim.bA<0↔a.Claim.bA<b.Claim.bA:=vy;unfold mw mw;rcases j with c|⟨c,s⟩
   .grind
   .grind
  simp only[show decide ((0:Int)<((c++[a]).length:Int))=true from fU (by simp),o,y6,Hy,aR,cm,p,bH];exact f
 .grind
def pI(s:Int):p6->Int->Int
 |[],out=>out
 |o::r,out=>pI s r (bif decide (o.Claim.bA=s)&&(decide (out=0)||decide (o.Claim.Length<out))then o.Claim.Length else out)
theorem Ya(h:ql l)(s:Int):AY l s=some (pI s l 0):=by
 unfold AY;rw[MT h];simp only[aR,ef,dk,bH];refine y5 (f:=λl a=>some (pI s l a)) (λ_=>rfl) (λc e d a a4 b=>?_) l 0 0;unfold jn;rw[pI]
 grind
theorem CT{s:Int}:∀{l:p6} {out:Int},(∀o∈l,oi o=true)->(fM out=true\/out=0)->(fM (pI s l out)=true\/pI s l out=0/\out=0/\∀o∈l,o.Claim.bA≠s)
 |[],out,_,a=>by
  rcases a with a|a
  .exact .inl a
  .exact .inr ⟨a,a,by simp⟩
 |o::r,out,d,a=>by
  have g:fM o.Claim.Length=true:=by
   have:=d o (by simp);unfold oi iM at this
   grind
  have p:∀e:Int,fM e=true->e≠0:=λe h i=>by subst i;revert h;decide
  rw[pI];cases n:decide (o.Claim.bA=s)&&(decide (out=0)||decide (o.Claim.Length<out))with
  |true=>
   simp only[cm];rcases CT (s:=s) (l:=r) (λf c=>d f (by simp[c])) (.inl g)with b|⟨_,b,_⟩
   .exact .inl b
   .grind
  |false=>
   simp only[bH];rcases CT (s:=s) (l:=r) (λf c=>d f (by simp[c])) a with b|⟨j,m,k⟩
   .exact .inl b
   .grind
def kY(s:Int)(l:p6)(i:Nat):Nat:=(l.filter λo=>decide (o.Claim.bA=s)&&decide (o.Claim.aP=(i:Int))).length
def pJ(s:Int)(l:p6):gw 257:=⟨(List.range 257).map λa=>(kY s l a:Int),by simp⟩
theorem NN{s:Int}{n:Int}(h:1<=n/\n<=256):b6 (pJ s l).l n=some (kY s l n.toNat:Int):=by
 unfold b6;rw[bx (by omega)];simp only[pJ,l7]
 grind
def aaj{s:Int}{i:Nat}:kY s l i<=l.length:=oz _ _
def G0{n:Nat}{a b:gw n}(h:a.l=b.l):a=b:=by
 cases a;cases b;simp only at h;subst h;rfl
theorem Y9(h:ql l)(s:Int):A7 l s=some (pJ s l):=by
 unfold A7
 rw[show gw.zero 257=pJ s []from G0 (List.eq_replicate_iff.2 ⟨by simp[pJ],λq j=>by
  obtain⟨c,_,rfl⟩:=dg.1 j;rfl⟩).symm]
 refine i3 (L:=l) (pJ s) _ rfl (λb a r a4 f i=>?_) l [] rfl;unfold jn;have m:=fq List.length f;have o:=h.n;simp at m;have k:1<=a.Claim.aP/\a.Claim.aP<=256:=by
  have:=h.g a (by rw[<-f];simp);unfold oi iM dT at this
  grind
 by_cases d:a.Claim.bA=s
 .simp only[d,ef,cm];rw[NN k,aR];have p:kY s b a.Claim.aP.toNat<=b.length:=aaj;rw[kV (by omega) (by omega)];have:gw.put (pJ s b) a.Claim.aP.toNat ((kY s b a.Claim.aP.toNat:Int)+1)=pJ s (b++[a]):=by
   refine G0 ?_;show((List.range 257).map λc=>(kY s b c:Int)).set a.Claim.aP.toNat ((kY s b a.Claim.aP.toNat:Int)+1)=(List.range 257).map λc=>(kY s (b++[a]) c:Int);apply mF;intro e;rw[r7,l7,l7];by_cases g:a.Claim.aP.toNat=e
   .subst g;rw[bx rfl,bx (by simp;omega),zV (by omega)];simp[kY,lB,d,show max a.Claim.aP 0=a.Claim.aP by omega]
   .rw[bw g];by_cases n:e<257
    .rw[zV n];simp[kY,lB,show ¬a.Claim.aP=(e:Int)by omega]
    .grind
  rw[this];exact i
 .simp only[d,jQ,bH];have:pJ s (b++[a])=pJ s b:=by
   refine G0 ?_;show(List.range 257).map (λc=>(kY s (b++[a]) c:Int))=(List.range 257).map λc=>(kY s b c:Int);refine List.map_congr_left λc _=>?_;simp[kY,lB,d]
  rw[<-this];exact i
def wF(s:Int)(l:p6)(o:c1):Bool:=decide (o.Claim.bA=s)&&decide (((kY s l o.Claim.aP.toNat:Nat):Int)=1)
def hc(s:Int)(l p:p6):zw:=(p.filter (wF s l)).map λo=>cT.mk o.ai o.Claim.aP
theorem aak(h:ql l){s:Int}(u:0<=s/\s<=7)(w:(hc s l l).length<=24)(r:(hc s l l).Pairwise λa b=>a.aP≠b.aP):
  Ok (uI l s) (λq=>q.2=0/\∃es,q.1=en.mk s (pI s l 0) es/\es.Perm (hc s l l)/\es.Pairwise λa b=>a.aP<b.aP):=by
 obtain⟨es,o,m,p⟩:=GF (ks:=[λc:cT=>c.aP]) (l:=hc s l l) (r.imp λ{a b} j=>by simp only[eF];grind) (by omega);refine⟨(en.mk s (pI s l 0) es,0),?_,rfl,es,rfl,m,p.imp λ{a b} j=>by simp only[eF]at j;grind⟩;unfold uI;rw[MT h];simp only[aR,ef,dk,bH,tO,show dT s 0 7=true from by unfold dT;simp;omega,Ya h,Y9 h];refine i3 (L:=l) (hc s l) _ ?_ (λd c x a4 i e=>?_) l [] rfl
 .simp only[show decide ((24:Int)<((hc s l l).length:Int))=false from ff (by omega),bH];rw[o];rfl
 .have n:=fq List.length i;have t:=h.n;simp at n;have k:1<=c.Claim.aP/\c.Claim.aP<=256:=by
   have:=h.g c (by rw[<-i];simp);unfold oi iM dT at this
   grind
  have v:(hc s l d).length<=d.length:=by simp[hc];exact oz _ _
  unfold jn;have dS:dm (hc s l d) [cT.mk c.ai c.Claim.aP]=some (hc s l d++[cT.mk c.ai c.Claim.aP]):=g9 (by simp;omega);by_cases f:c.Claim.bA=s
  .simp only[f,ef,cm];rw[NN k,aR];by_cases g:((kY s l c.Claim.aP.toNat:Nat):Int)=1
   .simp only[g,ef,cm,dS,aR];rw[show hc s l d++[cT.mk c.ai c.Claim.aP]=hc s l (d++[c])by simp[hc,lB,wF,f,g]];exact e
   .simp only[g,jQ,bH];rw[show hc s l (d++[c])=hc s l d by simp[hc,lB,wF,g]]at e;exact e
  .simp only[f,jQ,bH];rw[show hc s l (d++[c])=hc s l d by simp[hc,lB,wF,f]]at e;exact e
theorem CU{s:Int}:wF s l o=true↔o.Claim.bA=s/\kY s l o.Claim.aP.toNat=1:=by
 unfold wF
 grind
theorem G1(h:oi o=true):(1<=o.Claim.aP/\o.Claim.aP<=256)/\1<=o.ai/\o.ai<=99:=by
 unfold oi iM dT at h
 grind
def Za(h:ql l)(s:Int):(hc s l l).Pairwise λa b=>a.aP≠b.aP:=by
 unfold hc;rw[lq,zp];intro a b d f;have f:a.Claim.aP=b.Claim.aP:=f;obtain⟨i,c⟩:=gz.1 (d.subset (show a∈[a,b]by simp));obtain⟨m,e⟩:=gz.1 (d.subset (show b∈[a,b]by simp));rw[CU]at c e;have n:=(G1 (h.g a i)).1;have g:=((d.trans pN).filter λo=>decide (o.Claim.bA=s)&&decide (o.Claim.aP=((a.Claim.aP.toNat:Nat):Int))).length_le;have j:decide (a.Claim.aP=((a.Claim.aP.toNat:Nat):Int))=true:=fU (by omega);have k:decide (b.Claim.aP=((a.Claim.aP.toNat:Nat):Int))=true:=fU (by omega);simp only[List.filter_cons,c.1,e.1,ef,j,k,up,fE,List.filter_nil,fW,hP]at g;have:=c.2;unfold kY at this;omega
def FB(h:ql l)(s:Int):(hc s l l).Pairwise λa b=>a.ai<b.ai:=by
 unfold hc;rw[lq,zp];intro a b c;obtain⟨_,f⟩:=gz.1 (c.subset (show a∈[a,b]by simp));obtain⟨_,e⟩:=gz.1 (c.subset (show b∈[a,b]by simp));rw[CU]at f e;have:=zp.1 h.s (c.trans pN);rcases this with d|⟨_,d⟩
 .exact d
 .omega
def WX(h:ql l){s:Int}(aa:0<=s/\s<=7)(W:(hc s l l).length<=24){es:zw}(m:es.Perm (hc s l l))(S:es.Pairwise λa b=>a.aP<b.aP):nI (en.mk s (pI s l 0) es)=some true:=by
 have ag:es.length<=24:=by rw[m.length_eq];exact W
 have x:∀i∈es,∃o∈l,o.Claim.bA=s/\i=cT.mk o.ai o.Claim.aP:=λi n=>by
  have:=m.mem_iff.1 n;unfold hc at this;obtain⟨o,u,p⟩:=dg.1 this;obtain⟨C,G⟩:=gz.1 u;exact⟨o,C,(CU.1 G).1,p.symm⟩
 have D:es.Pairwise λa b=>a.ai≠b.ai:=(m.symm.pairwise_iff λh k=>h k.symm).1 ((FB h s).imp λh k=>by omega);unfold nI;have N:dT s 0 7=true:=by unfold dT;simp;omega
 have V:decide ((24:Int)<(es.length:Int))=false:=ff (by omega)
 have y:bC es 0 (λ(q:Int) (g:cT) (J:Unit->Option _) (r:Unit)=>match r with|()=>af (hB es (0:Int) (q:Int)) λ(I:zw)=>af (qK I (λ(t:cT)=>w2 t g)) λ(z:Bool)=>jn (λ(M:Bool)=>bif M then some false else J ()) λj=>af (lN g.aP (1:Int) (256:Int)) λ(K:Bool)=>(bif !K then j true else af (lN g.ai (1:Int) (99:Int)) λ(E:Bool)=>(bif !E then j true else(bif z then j true else(bif decide ((0:Int)<(q:Int))then af (b6 es (a2 ((q:Int)-(1:Int)))) λ(H:cT)=>j (decide (g.aP<=H.aP))else j false))))) (λ(r:Unit)=>match r with|()=>some true) ()=some true:=by
  refine i3 (L:=es) (λ_=>()) _ rfl (λd i Y a4 f w=>?_) es [] rfl;have v:=fq List.length f;simp at v;obtain⟨o,O,_,rfl⟩:=x i (by rw[<-f];simp);obtain⟨ak,Z⟩:=G1 (h.g o O);have P:hB es 0 (d.length:Int)=some d:=by
   unfold hB;rw[bx (by omega)];simp[<-f]
  have U:qK d (λ(t:cT)=>w2 t (cT.mk o.ai o.Claim.aP))=some false:=by
   unfold qK wS
   rw[show(bC d 0 _ _ ())=some (-1:Int)from i3 (L:=d) (λ_=>()) _ rfl (λe c ae aj T Q=>by
    have B:c.ai≠o.ai:=by
     have:=D;rw[<-f,mG]at this;exact this.2.2 c (by rw[<-T];simp) (cT.mk o.ai o.Claim.aP) (by simp)
    unfold w2;simp only[B,jQ,aR,bH];exact Q) d [] rfl]
   rfl
  simp only[P,U,aR,tO,show dT o.Claim.aP 1 256=true from by unfold dT;simp;omega,show dT o.ai 1 99=true from by unfold dT;simp;omega,dk,bH];unfold jn;by_cases X:0<d.length
  .obtain⟨e,c,rfl⟩:∃e c,d=e++[c]:=⟨d.dropLast,d.getLast (λk=>by simp[k]at X),(zS _).symm⟩;have g:b6 es (a2 (((e++[c]).length:Int)-1))=some c:=by
    rw[kV (by omega) (by simp at v ⊢;omega),<-f];have:=iy e c (cT.mk o.ai o.Claim.aP::Y);simpa using this
   have ab:c.aP<o.Claim.aP:=by
    have:=S;rw[<-f,mG]at this;exact this.2.2 c (by simp) (cT.mk o.ai o.Claim.aP) (by simp)
   simp only[show decide ((0:Int)<((e++[c]).length:Int))=true from fU (by simp),g,aR,cm,show decide (o.Claim.aP<=c.aP)=false from ff (by omega),bH];exact w
  .simp only[show decide ((0:Int)<(d.length:Int))=false from ff (by omega),bH];exact w
 unfold jn;simp only[tO,N,tV,aR,dk,bH,V];rcases CT (s:=s) (l:=l) (out:=0) h.g (.inr rfl)with e|⟨A,_,F⟩
 .simp only[e,dk,bH];exact y
 .have R:es=[]:=List.eq_nil_iff_forall_not_mem.2 λi n=>by
   obtain⟨o,u,p,_⟩:=x i n;exact F o u p
  subst R;simp only[A,show fM 0=false from by decide,js,cm,ef,dk,bH,hP];exact y
theorem Zb(h:ql l)(s:Int){V:bX}(g:V.length<=24)(a:∀o∈l,o.ai∈V):(hc s l l).length<=24:=by
 have f:((hc s l l).map (·.ai)).Nodup:=by
  rw[List.Nodup,lq];exact(FB h s).imp λh i=>by omega
 have:=nU f (b:=V) λj d=>by
  obtain⟨k,e,rfl⟩:=dg.1 d;obtain⟨o,c,rfl⟩:=dg.1 e;exact a o (gz.1 c).1
 grind
variable {T:aS}{dN:Int}{r:bV}
theorem oq.owner{d:bM}(h:oq d dN T)(H:r∈T.bf):eK d/\∃a∈d.bq,r=bV.mk a.ai a.bK:=by
 rcases h with⟨_,rfl⟩|⟨⟨_,S⟩,X,O,rfl⟩
 .simp[DH]at H
 .split at H
  .obtain⟨a,Q,_,e⟩:=(O.Io r).1 H
   grind
  .simp[DH]at H
def kB(d:bM)(r:bV):p6:=bif r.bK then(hI d r.aP).1.Claims.map (c1.mk r.aP)else[]
def Yb{d:bM}(p:pa d)(o:pX d dN=some T)(l:oq d dN T)(s:T.bf.length<=24):sy d dN=some (T.bf.flatMap (kB d)):=by
 refine aFo ?_;unfold sy;rw[o,aR];refine aFg (λe (c:p6)=>c=e.flatMap (kB d)/\c.length<=8*e.length) ?_ _ ⟨rfl,by simp⟩ (λc f=>Ok.s f.1);rintro e r v c a4 j ⟨f,t⟩ k;obtain⟨h,a,g,m⟩:=l.owner (r:=r) (by rw[j];simp);have nM:=py (h.ok a g);have u:e.length<T.bf.length:=by rw[j];simp
 simp only[jn];rw[y7 p,aR];have i:hI d r.aP=(a,true):=h.key g (by rw[m]);have q:=nM.Eg;refine Ok.cs (λb=>?_) λb=>?_
 .have b:r.bK=false:=by simpa using b
  exact k _ ⟨by rw[ox,f];simp[kB,b],by simp;omega⟩
 .have b:r.bK=true:=by simpa using b
  rw[i];rw[yF (λn=>c1.mk r.aP n) a.Claims 0 c (by omega)];exact k _ ⟨by rw[ox,f];simp[kB,b,i],by simp;omega⟩
variable {a:a6}
theorem WB(h:eC a=true):(∀c∈a.Claims,iM c=true)/\a.Claims.Pairwise (λx y=>x.bA<y.bA):=by
 simp only[eC,b9]at h;refine⟨λc e=>gE.1 h.2.2.1 c e,?_⟩;have:=xY (p:=λa b:fx=>decide (a.bA<b.bA)) (λa b c f d=>by simp at f d ⊢;omega) h.2.2.2
 grind
def WY{d:bM}(e:eK d)(b:a∈d.bq)(c:r=bV.mk a.ai a.bK):kB d r=bif r.bK then a.Claims.map (c1.mk r.aP)else[]:=by
 unfold kB;rw[e.key b (by rw[c])]
theorem FW{d:bM}{o:c1}(h:o∈kB d r):o.ai=r.aP:=by
 unfold kB at h
 grind
theorem Oj{d:bM}(c:eK d):∀(R:uX),(∀r∈R,∃a∈d.bq,r=bV.mk a.ai a.bK)->R.Pairwise (λa b=>a.aP<b.aP)->(R.flatMap (kB d)).length<=8*R.length/\(∀o∈R.flatMap (kB d),oi o=true)/\(R.flatMap (kB d)).Pairwise oO
 |[],_,_=>by simp
 |r::R,h1,k=>by
  obtain⟨y,z,m⟩:=Oj c R (λh f=>h1 h (by simp[f])) (fI.1 k).2;obtain⟨a,e,i⟩:=h1 r (by simp);have n:=WY c e i;have nM:=py (c.ok a e);obtain⟨w,l⟩:=WB (c.ok a e);have A:r.aP=a.ai:=by rw[i]
  have v:dT a.ai 1 99=true:=by
   have:=nM.r;simp only[dT,b9,eY];exact this
  have s:(kB d r).length<=8/\(∀o∈kB d r,oi o=true)/\(kB d r).Pairwise oO:=by
   rw[n];cases r.bK
   .simp
   .simp only[cm,iO,lq];refine⟨nM.Eg,λo j=>?_,l.imp λ{h t} p=>.inr ⟨rfl,p⟩⟩;obtain⟨B,x,rfl⟩:=dg.1 j;unfold oi
    grind
  rw[nt];refine⟨by simp only[dF,fW];omega,λo j=>?_,mG.2 ⟨s.2.2,m,λh f t g=>?_⟩⟩
  .grind
  .obtain⟨u,q,g⟩:=r8.1 g;have:=(fI.1 k).1 u q;left;rw[FW f,FW g];exact this
def Zc{d:bM}(h:eK d)(e:oq d dN T)(c:cE T):ql (T.bf.flatMap (kB d))/\∀o∈T.bf.flatMap (kB d),o.ai∈ids T:=by
 obtain⟨i,f,g⟩:=Oj h T.bf (λr a=>(e.owner a).2) c.ic;refine⟨⟨by have:=c.jP;omega,f,g⟩,λo b=>?_⟩;obtain⟨r,a,b⟩:=r8.1 b;rw[FW b];exact dg.2 ⟨r,a,rfl⟩
variable {a b:ri}{f:aQ}
def aal{n:br}(d:dj f)(c:f.aM=a++n::b)(l:n.Seq=0):pU f n.ai=some (eP f a (jf f (br.mk n.ai 1 n.bK n.Claims n.Database)) b,0):=by
 unfold pU;have k:n∈f.aM:=by rw[c];simp
 have g:=d.n n k;have m:b6 f.aM (a.length:Int)=some n:=by rw[c];exact iy a n b
 have o:gB f.aM (a.length:Int)=λe=>some (a++e::b):=by funext e;rw[c];exact s2 a n e b
 rw[Gb d c];have h:decide ((0:Int)=1000000)=false:=rfl;simp only[dV,m,o,l,h,aR,ef,dk,bH];rw[fv (by omega) (by omega)];have i:dj (eP f a (br.mk n.ai (0+1) n.bK n.Claims n.Database) b):=d.eP c rfl rfl ⟨⟨by show(0:Int)<=0+1;omega,by show(0:Int)+1<=1000000;omega⟩,g.2.1,g.2.2⟩;have:=C0 i (a:=a) (b:=b) (n:=br.mk n.ai (0+1) n.bK n.Claims n.Database) rfl (by show(1:Int)<=0+1;omega);rw[show aQ.mk f.Links (a++br.mk n.ai (0+1) n.bK n.Claims n.Database::b) f.bg=eP f a (br.mk n.ai (0+1) n.bK n.Claims n.Database) b from rfl,this];simp only[aR,F2];have j:=oT (n':=br.mk n.ai (0+1) n.bK n.Claims n.Database) c rfl rfl;unfold jf;rw[j];rfl
structure tP(f:aQ)(i:Nat):Prop where
 v:dj f
 l:f.bg=[]
 a:∀(k:Nat) (n:br),k<i->f.aM[k]?=some n->n.Seq=1/\look n.Database n.ai=some (jV f n)/\∀s a,look n.Database s=some a->a.Seq<=1
 z:∀(k:Nat) (n:br),i<=k->f.aM[k]?=some n->n.Seq=0/\n.Database=bM.mk []
def tP.hd{i:Nat}(h:tP f i)(hi:f.aM.length<=i)(H:1<=f.aM.length):iF 1 (a0 f).bf f:=by
 have key:∀n∈f.aM,n.Seq=1/\look n.Database n.ai=some (jV f n)/\∀s a,look n.Database s=some a->a.Seq<=1:=λn H=>by
  obtain⟨k,O⟩:=List.getElem?_of_mem H;have:=(k0.1 O).1;exact h.a k n (by omega) O
 exact⟨h.v,H,λn H=>⟨by have:=(key n H).1;omega,(key n H).2.1⟩,λn H s a S=>(key n H).2.2 s a S,λm Q=>(by rw[h.l]at Q;cases Q),rfl⟩
theorem tP.step{n:br}(h:tP f a.length)(Q:f.aM=a++n::b):∃g,pU f n.ai=some (g,0)/\tP g (a.length+1)/\a0 g=a0 f:=by
 have Y:n∈f.aM:=by rw[Q];simp
 obtain⟨Z,hd⟩:=h.z a.length n (eb _) (by rw[Q];simp);refine⟨_,aal h.v Q Z,?_,oT Q rfl rfl⟩;have S:=h.v.n n Y;have aa:=h.v.Ep Q (n:=br.mk n.ai 1 n.bK n.Claims n.Database) rfl rfl (by show(1:Int)<=1/\(1:Int)<=1000000;decide) S.2.1 S.2.2;have ab:eC (eZ (a0 f) n.ai 1 n.Claims)=true:=zc h.v Y (by omega);have jj:=GW S.2.2 ab (λx O=>by rw[hd]at O;cases O);have ae:=oT (n':=jf f (br.mk n.ai 1 n.bK n.Claims n.Database)) Q rfl rfl;refine⟨aa,h.l,λk m aj H=>?_,λk m aj H=>?_⟩
 .have H:(a++jf f (br.mk n.ai 1 n.bK n.Claims n.Database)::b)[k]?=some m:=H;unfold jV;rw[ae];by_cases X:k<a.length
  .rw[nu X]at H;exact h.a k m X (by rw[Q,nu X];exact H)
  .have ag:k=a.length:=by omega
   rw[ag,pO (eb _)]at H;simp only[Nat.sub_self,List.getElem?_cons_zero]at H;have:=qw H;rw[<-this];refine⟨rfl,?_,λs x O=>?_⟩
   .show look (jx n.Database (eZ (a0 f) n.ai 1 n.Claims)).1 n.ai=_;rw[jj];exact bx rfl
   .have O:look (jx n.Database (eZ (a0 f) n.ai 1 n.Claims)).1 s=some x:=O;rw[jj,hd]at O;split at O
    .rw[<-qw O];show(1:Int)<=1;omega
    .cases O
 .have H:(a++jf f (br.mk n.ai 1 n.bK n.Claims n.Database)::b)[k]?=some m:=H;refine h.z k m (by omega) ?_
  grind
structure B1(k:Int)(l:List c1):Prop where
 g:∀o∈l,(1<=o.ai/\o.ai<=k)/\(0<=o.Claim.bA/\o.Claim.bA<=2)/\iM o.Claim=true
 s:l.Pairwise oO
 n:(l.length:Int)<=3*k
def pE(cl:p6)(r:bV):br:=br.mk r.aP 0 r.bK ((cl.filter λa=>decide (a.ai=r.aP)).map (·.Claim)) (bM.mk [])
def vI(g:aS)(cl:p6):aQ:=aQ.mk g.Links (g.bf.map (pE cl)) []
def LL(g:aS)(cl:p6):a0 (vI g cl)=g:=by
 unfold a0 vI;simp only[nv];rw[show(λa:br=>bV.mk a.ai a.bK)∘pE cl=id from rfl,List.map_id]
variable {cl:p6}{k:Int}
theorem WZ(h:B1 k cl)(r:Int):nY ((cl.filter λo=>decide (o.ai=r)).map (·.Claim))=true:=by
 have g:((cl.filter λo=>decide (o.ai=r)).map (·.Claim)).Pairwise λa b=>a.bA<b.bA:=by
  rw[lq,zp];intro a b f;have m:=(gz.1 (f.subset (show a∈[a,b]by simp))).2;have j:=(gz.1 (f.subset (show b∈[a,b]by simp))).2;have:=zp.1 h.s (f.trans pN);simp only[eY]at m j;rcases this with i|i
  .omega
  .exact i.2
 have e:∀c∈(cl.filter λo=>decide (o.ai=r)).map (·.Claim),(0<=c.bA/\c.bA<=2)/\iM c=true:=λc d=>by
  obtain⟨o,n,rfl⟩:=dg.1 d;exact(h.g o (gz.1 n).1).2
 generalize (cl.filter λo=>decide (o.ai=r)).map (·.Claim)=l at g e;have s:l.length<=3:=by
  have q:(l.map (·.bA)).Nodup:=by grind
  have:=nU q (b:=[0,1,2]) λt p=>by
   obtain⟨c,d,rfl⟩:=dg.1 p;have:=(e c d).1;simp only[c5,hr,hG];omega
  simpa using this
 unfold nY;rw[gE.2 λc d=>(e c d).2,show wM l=true from uP (g.imp λh=>by simpa using h)];simp;omega
def KT{g:aS}(f:cE g)(h:B1 k cl):tP (vI g cl) 0:=by
 have c:∀a∈(vI g cl).aM,∃b∈g.bf,a=pE cl b:=λa c=>by
  obtain⟨b,i,rfl⟩:=dg.1 c;exact⟨b,i,rfl⟩
 refine⟨⟨by rw[LL];exact f,by show(0:Nat)<=400;omega,λa e=>?_,λj e=>(by cases e)⟩,rfl,λk a d=>absurd d (Nat.not_lt_zero _),λk a _ d=>?_⟩
 .obtain⟨b,_,rfl⟩:=c a e;exact⟨⟨by show(0:Int)<=0;decide,by show(0:Int)<=1000000;decide⟩,WZ h b.aP,⟨by simp[pE],by simp[pE],by simp[pE]⟩⟩
 .obtain⟨b,_,rfl⟩:=c a (nw d);exact⟨rfl,rfl⟩
variable {k:Int}{t:cu}
def WC(h:fC t)(R:0<=k/\k<=8):Ok (A8 t k) (λp=>B1 k p.1/\fC p.2):=by
 unfold A8;refine aFt (by simp;omega) ?_;refine aFA (λe (c:p6×bX×Int)=>((c.1.length:Int)<=3*(e-1)/\(∀a∈c.1,(1<=a.ai/\a.ai<e)/\(0<=a.Claim.bA/\a.Claim.bA<=2)/\iM a.Claim=true)/\c.1.Pairwise oO)/\fC (cu.mk c.2.1 c.2.2)) 1 (k+1) ?_ ?_ _ _ _ rfl (by omega) (by omega) ⟨⟨by simp,by simp,by simp⟩,h⟩
 .rintro e ⟨M,G,At⟩ a4 L o ⟨⟨m,g,j⟩,q⟩ H;simp only at m g j;refine aFA (λc (d:p6×bX×Int)=>((d.1.length:Int)<=3*(e-1)+c/\(∀a∈d.1,((1<=a.ai/\a.ai<e)\/(a.ai=e/\a.Claim.bA<c))/\(0<=a.Claim.bA/\a.Claim.bA<=2)/\iM a.Claim=true)/\d.1.Pairwise oO)/\fC (cu.mk d.2.1 d.2.2)) 0 3 ?_ ?_ _ _ _ rfl (by omega) (by omega) ⟨⟨by simp only;omega,λa b=>⟨.inl (g a b).1,(g a b).2⟩,j⟩,q⟩
  .rintro c ⟨B,K,I⟩ P F r ⟨⟨s,f,i⟩,u⟩ J;simp only at s f i;refine aFj (λd:p6×bX×Int=>((d.1.length:Int)<=3*(e-1)+(c+1)/\(∀a∈d.1,((1<=a.ai/\a.ai<e)\/(a.ai=e/\a.Claim.bA<c+1))/\(0<=a.Claim.bA/\a.Claim.bA<=2)/\iM a.Claim=true)/\d.1.Pairwise oO)/\fC (cu.mk d.2.1 d.2.2)) (λd n=>J _ n) λN A=>?_;have C:∀a∈B,((1<=a.ai/\a.ai<e)\/(a.ai=e/\a.Claim.bA<c+1))/\(0<=a.Claim.bA/\a.Claim.bA<=2)/\iM a.Claim=true:=λa b=>⟨by have:=(f a b).1;omega,(f a b).2⟩;refine Ok.af (jm u (by omega)) λp w=>?_;refine Ok.cs (λ_=>?_) λ_=>A _ ⟨⟨by simp only;omega,C,i⟩,w.2⟩;refine Ok.af (vz w.2 (by decide) (by decide)) λz D=>?_;refine Ok.af (L4 D.2) λO y=>?_;have Q:1<=z.1/\z.1<=256:=by
    have:=D.1;simp only[c5,hr,hG]at this;omega
   refine Ok.af (qp (by simp;omega)) λE l=>A _ ⟨⟨?_,λa b=>?_,?_⟩,y.2⟩
   .have:=l.2;rw[fW,hP]at this;simp only;omega
   .have b:a∈E:=b;rw[l.1]at b;rcases dG.1 b with b|b
    .exact C a b
    .rw[gL]at b;subst b;refine⟨.inr ⟨rfl,by show c<c+1;omega⟩,⟨F,by show c<=2;omega⟩,?_⟩;simp only[iM,dT,b9,eY];exact⟨⟨by omega,by omega⟩,y.1⟩
   .show E.Pairwise oO;rw[l.1];refine mG.2 ⟨i,by simp,λd n S x=>?_⟩;rw[gL]at x;subst x;rcases(f d n).1 with v|v
    .exact .inl v.2
    .exact .inr v
  .rintro c ⟨B,K,I⟩ F r ⟨⟨s,f,i⟩,u⟩;have r:=r (by omega);simp only at s f i;exact H _ ⟨⟨by simp only;omega,λa b=>⟨by have:=f a b;omega,(f a b).2⟩,i⟩,u⟩
 .rintro e ⟨M,G,At⟩ L o ⟨⟨m,g,j⟩,q⟩;have o:=o (by omega);simp only at m g j;exact Ok.s ⟨⟨λa b=>⟨by have:=(g a b).1;omega,(g a b).2⟩,j,by simp only;omega⟩,q⟩
theorem aam{y x:c1}(h:oO y x):decide ((0:Int)<=mw [eB y.ai x.ai,eB y.Claim.bA x.Claim.bA])=false:=by
 refine ff ?_;have c:eB y.ai x.ai<0↔y.ai<x.ai:=vy;have d:eB y.ai x.ai=0↔y.ai=x.ai:=oZ;have e:eB y.Claim.bA x.Claim.bA<0↔y.Claim.bA<x.Claim.bA:=vy;unfold mw mw;rcases h with a|⟨a,b⟩
 .grind
 .grind
theorem Zd{g:aS}{cl:p6}(j:cE g)(h:B1 k cl)(C:k<=8)(u:∀o∈cl,o.ai∈ids g):uL g cl=some (vI g cl,0):=by
 have n:=h.n;have n:cl.length<=24:=by omega
 have A:=j.jP;have p:=ho.2 j
 have q:sp cl (λ(v:c1)=>uG v g)=some false:=by
  unfold sp Ad
  rw[show(bC cl 0 _ _ ())=some (-1:Int)from i3 (L:=cl) (λ_=>()) _ rfl (λb a e a4 d f=>by
   have:uG a g=some false:=by
    unfold uG;rw[vA g _ (by omega),aR,p,mB.1 (u a (by rw[<-d];simp))];rfl
   show(af (uG a g) λr=>bif r then some (b.length:Int)else a4 ())=some (-1);rw[this];exact f) cl [] rfl]
  rfl
 unfold uL;rw[qb,p,q];simp only[aR,ef,dk,bH];refine i3 (L:=cl) (λ_=>()) _ ?_ (λb a e a4 d f=>?_) cl [] rfl
 rotate_left
 .unfold jn;by_cases x:0<b.length
  .obtain⟨i,c,rfl⟩:∃i c,b=i++[c]:=⟨b.dropLast,b.getLast (λy=>by simp[y]at x),(zS _).symm⟩;have z:b6 cl (a2 (((i++[c]).length:Int)-1))=some c:=by
    have l:=fq List.length d;simp at l;rw[kV (by omega) (by simp;omega),<-d];have:=iy i c (a::e);simpa using this
   have t:oO c a:=by
    have:=h.s
    grind
   simp only[show decide ((0:Int)<((i++[c]).length:Int))=true from fU (by simp),z,y6,Hy,aR,cm,aam t,bH];exact f
  .grind
 .show(af (qJ g.Links) _)=_;rw[vB (by have:=j.nl;omega),aR];have B:∀e:bV,(cl.filter λo=>decide (o.ai=e.aP)).length<=24:=λe=>gP (oz _ _) n;refine i3 (L:=g.bf) (λb=>b.map (pE cl)) _ ?_ (λb a e a4 d f=>?_) g.bf [] rfl
  .have m:=KT j h;have w:=m.v.sm;show af (ml (vI g cl)) _=_;rw[oV w,n5.2 m.v];rfl
  .have l:=fq List.length d;simp at l;refine(uZ (λo:c1=>decide (o.ai=a.aP)) (λo=>o.Claim) cl 0 [] (λE o a4 F D s=>?_) (by simp;omega)).trans ?_
   .unfold jn;simp only[jU s,aR]
   .rw[jU (by simp;omega),aR];rw[show b.map (pE cl)++[br.mk a.aP 0 a.bK ([]++(cl.filter λo=>decide (o.ai=a.aP)).map λo=>o.Claim) (bM.mk [])]=(b++[a]).map (pE cl)by simp[pE]];exact f
structure Fo(B:Int)(f:aQ)(k:Nat):Prop where
 h:fe B f
 m:f.bg=[]
 k:2*(ids (a0 f)).length<=k
 n:1<=f.aM.length
 c:∀x∈(a0 f).bf,x.bK=true
def Yc{n:Nat}(c:1<=n/\n<=24):AX (n:Int)=some ((2*n:Nat):Int):=by
 unfold AX;have a:¬(n:Int)<0:=by omega
 have b:¬(1099511627776:Int)<(n:Int):=by omega
 simp only[a,b,h0]
 first
  |rw[fv (by omega) (by omega)];congr 1
  |(congr 1;rw[fv (by split<;>(try split)<;>omega) (by split<;>(try split)<;>omega)];split<;>(try split)<;>omega)
theorem Wg(h:fC t):Ok (BD t 4) (λq=>(∃B f k,Fo B f k/\q.1=eS k f)/\q.2.1=true/\fC q.2.2):=by
 unfold BD;refine Ok.af (Xy h (by omega)) λg j=>?_;obtain⟨g,t1⟩:=g;obtain⟨⟨j,X⟩,aa⟩:=j;simp only at j X aa;dsimp only;have a7:=j.n;refine Ok.af (WC aa (by omega)) λF u=>?_;obtain⟨F,t2⟩:=F;obtain⟨u,Y⟩:=u;simp only at u Y
 have an:∀H∈F,H.ai∈ids g:=λH aj=>by
  have:=(u.g H aj).1;obtain⟨i,c,aC⟩:=j.all H.ai this.1 this.2;exact dg.2 ⟨i,c,aC⟩
 rw[Zd j.v u (by omega) an,aR];refine aFg (λA (a:mJ×ri×sD)=>tP (aQ.mk a.1 a.2.1 a.2.2) A.length/\a0 (aQ.mk a.1 a.2.1 a.2.2)=g) ?_ _ ⟨KT j.v u,LL g F⟩ ?_
 .rintro A i ae ⟨O,l,P⟩ a4 am ⟨v,w⟩ U;simp only at v w ⊢;have c:(a0 (aQ.mk O l P)).bf=A++i::ae:=by rw[w];exact am
  have c:l.map (λC=>bV.mk C.ai C.bK)=A++i::ae:=c;obtain⟨I,aT,aD,aE,ao⟩:=List.map_eq_append_iff.1 c;obtain⟨C,ab,aq,ar,aY⟩:=List.map_eq_cons_iff.1 ao;have aw:i.aP=C.ai:=by rw[<-ar]
  have ay:A.length=I.length:=by rw[<-aE];simp
  have aB:(aQ.mk O l P).aM=I++C::ab:=by show l=_;rw[aD,aq]
  rw[ay]at v;obtain⟨o,aI,aV,bb⟩:=v.step aB;rw[aw,aI,aR]
  simp_all
 rintro⟨O,l,P⟩ ⟨v,w⟩;simp only at v w ⊢;have a5:l.length=g.bf.length:=by rw[<-w];simp[a0]
 have S:=v.hd (by show l.length<=_;omega) (by show 1<=l.length;omega);rw[w]at S;refine Ok.af (jm Y (by omega)) λba J=>?_;have aK:=J.1.2.1 (by omega);have aA:=J.1.1;refine aFv (λa:Int×mJ×ri×sD×bX×Int=>(0<=a.1/\a.1<=8)/\iF (1+(8-a.1)) g.bf (aQ.mk a.2.1 a.2.2.1 a.2.2.2.1)/\fC (cu.mk a.2.2.2.2.1 a.2.2.2.2.2)) (λa=>a.1.toNat) ⟨⟨aA,by simp only;omega⟩,S.mono (by simp only;omega),J.2⟩ (by simp only;omega) ?_;rintro⟨G,x,b,y,a2,aL⟩ a4 ⟨aG,d,L⟩ U;simp only at aG d L ⊢;refine Ok.cs (λn=>?_) λ_=>?_
 .have aZ:0<G:=by simpa using n
  refine aFj (λa:bX×Int×mJ×ri×sD=>iF (1+(8-(G-1))) g.bf (aQ.mk a.2.2.1 a.2.2.2.1 a.2.2.2.2)/\fC (cu.mk a.1 a.2.1)) (λa p=>?_) λaU T=>?_
  .rw[fv (by omega) (by omega)];exact U _ ⟨by simp only;omega,p.1,p.2⟩ (by simp only;omega)
  refine aFj (λa:Int×bX×Int×mJ×ri×sD=>(a.1=0->iF (1+(8-G)+1) g.bf (aQ.mk a.2.2.2.1 a.2.2.2.2.1 a.2.2.2.2.2))/\fC (cu.mk a.2.1 a.2.2.1)) (λa p=>?_) λaN s=>?_
  .refine Ok.cs (λh=>T _ ⟨?_,p.2⟩) λ_=>T _ ⟨d.mono (by omega),p.2⟩;exact(p.1 (by simpa using h)).mono (by omega)
  refine Ok.af (jm L (by omega)) λq r=>?_;refine Ok.cs (λ_=>?_) λ_=>?_
  .have ax:=d.v.sm;rw[F1 ax,aR,aR];refine Ok.af (Xc r.2 ⟨by have:=d.v.t.jP;omega,by have:=d.v.t.nl;omega⟩) λag aH=>?_;rw[Ws,aR];have az:(yN (a0 (aQ.mk x b y)) ag.1).Links.length<=100000:=by
    have:=(V3 (a0 (aQ.mk x b y)) ag.1).nl;omega
   exact Ok.af (LB d (by omega) az) λo e=>s _ ⟨e,aH.2⟩
  refine Ok.cs (λ_=>?_) λ_=>?_
  .exact Ok.af (LB d (by omega) (by have:=j.v.nl;omega)) λo e=>s _ ⟨e,r.2⟩
  refine Ok.cs (λ_=>?_) λ_=>?_
  .exact Ok.af (L2 r.2 (by omega)) λi c=>Ok.af (Xk d (by omega) _) λo e=>s _ ⟨e,c.2⟩
  refine Ok.cs (λ_=>?_) λ_=>?_
  .exact Ok.af (L2 r.2 (by omega)) λi c=>Ok.af (Z7 d _) λo e=>s _ ⟨e,c.2⟩
  refine Ok.cs (λ_=>?_) λ_=>?_
  .exact Ok.af (jm r.2 (by omega)) λi c=>Ok.af (Z8 d _) λo e=>s _ ⟨e,c.2⟩
  .exact Ok.af (jm r.2 (by omega)) λi c=>Ok.af (Xl d (by omega) _) λo e=>s _ ⟨e,c.2⟩
 .have c:=d.PR (by omega);have E:=d.n;have Q:=d.v.len;have D:=MK c;have N:=(Cs d.v).2;have Z:=Lw c;have aW:(ids (a0 (hF (aQ.mk x b y)))).length=b.length:=by rw[Z];simp[ids,a0]
  have E:1<=b.length:=E;have Q:b.length<=24:=Q;rw[Yc ⟨E,Q⟩,aR]
  have V:Fo (1+(8-G)) (hF (aQ.mk x b y)) (2*b.length):=⟨D,N,by omega,by rw[Lx c];exact E,λaJ R=>by
   rw[Z,d.r]at R;exact X aJ R⟩
  refine aFv (λa:Int×mJ×ri×sD=>(0<=a.1/\a.1<=((2*b.length:Nat):Int))/\((a.1=((2*b.length:Nat):Int)/\aQ.mk a.2.1 a.2.2.1 a.2.2.2=aQ.mk x b y)\/(a.1<((2*b.length:Nat):Int)/\aQ.mk a.2.1 a.2.2.1 a.2.2.2=eS (2*b.length-a.1.toNat) (hF (aQ.mk x b y))))) (λa=>a.1.toNat) ⟨⟨by simp only;omega,by simp only;omega⟩,.inl ⟨rfl,rfl⟩⟩ (by simp only;omega) ?_;rintro⟨z,I,ab,a9⟩ aX ⟨ak,M⟩ W;simp only at ak M ⊢;refine Ok.cs (λn=>?_) λn=>?_
  .have n:0<z:=by simpa using n
   rcases M with⟨K,m⟩|⟨K,m⟩
   .rw[m,round_eq c,aR,fv (by omega) (by omega)];refine W _ ⟨by simp only;omega,.inr ⟨by simp only;omega,?_⟩⟩ (by simp only;omega);simp only;rw[show 2*b.length-(z-1).toNat=1 by omega];rfl
   .rw[m,YM D N,aR,fv (by omega) (by omega)];refine W _ ⟨by simp only;omega,.inr ⟨by simp only;omega,?_⟩⟩ (by simp only;omega);simp only;rw[show 2*b.length-(z-1).toNat=2*b.length-z.toNat+1 by omega]
  .have n:¬0<z:=by simpa using n
   rcases M with⟨K,m⟩|⟨K,m⟩
   .omega
   .rw[show 2*b.length-z.toNat=2*b.length by omega]at m;simp only[ef,cm];rw[m,Xg (kG D _).v.sm,EC D N V.k,aR];exact Ok.s ⟨⟨_,_,_,V,rfl⟩,rfl,L⟩
def Ol{t:aS}(a:cE t){x:bV}(b:x∈t.bf):hW t x.aP=some x.bK:=by
 unfold hW;simp only[GB t _ (by have:=a.jP;omega),yE,ho.2 a,Pw a b,aR,ef,cm]
structure hC(T:aS)(r s:Int)(W:aS)(P:en):Prop where
 v:cE W
 w:∃out,W=lz T (gG.mk [] out)/\∀y∈ids T,(y∉out↔ds T [] r y)
 c:∀x∈W.bf,x.bK=true
 n:W.bf≠[]
 l:W.bf.length=(rS T [] r).length
 p:nI P=some true
 e:∀x∈P.ck,x.ai∈ids W
 s:P.bA=s
 k:P.ck.length<=24
 u:P.ck.Pairwise λa b=>a.aP<b.aP
 i:∀x∈P.ck,1<=x.aP/\x.aP<=256
 b:fM P.Length=true\/P.Length=0/\P.ck=[]
 d:P.ck.Pairwise λa b=>a.ai≠b.ai
variable {P:en}{T W:aS}{r:Int}
def hC.caps{s:Int}(h:hC T r s W P):∀n∈ids W,hW W n=some true:=λn O=>by
 obtain⟨x,H,rfl⟩:=dg.1 O;rw[Ol h.v H,h.c x H]
def hC.builds{s:Int}(h:hC T r s W P):∀r∈ids W,p3 W P r=some (dW P (eG W) P.ck r,0):=by
 have O:=h.v.jP;refine LK h.v (by rw[qb,ho.2 h.v]) h.p h.caps (λn H=>?_) (by have:=h.k;omega) h.e;rw[vA W _ (by omega),ho.2 h.v,mB.1 H];rfl
theorem W0{B:Int}{f:aQ}{k:Nat}(h:Fo B f k)(C:r∈ids (a0 f)){s:Int}(S:0<=s/\s<=7):∃W P,BE (eS k f) r s=some (W,P,W.bf.map (λx=>dW P (eG W) P.ck x.aP),true)/\hC (a0 f) r s W P:=by
 have E:=kG h.h k;have z:=rL h.h k
 have H:∀g,je (a0 f) r g=true↔ds (a0 f) [] r g:=λg=>by
  unfold je;simp only[b9,eY];exact⟨λe=>e.2,λe=>⟨⟨⟨ho.2 h.h.v.t,mB.1 C⟩,mB.1 (e.ids h.h.v.t C)⟩,e⟩⟩
 generalize y:a0 f=T at *;have aj:cE T:=y▸h.h.v.t;obtain⟨out,aw⟩:∃out,out=(ids T).filter λg=>!je T r g:=⟨_,rfl⟩
 have K:∀g∈ids T,(g∉out↔ds T [] r g):=λg L=>by
  rw[aw,gz,<-H];cases je T r g<;>simp[L]
 obtain⟨W,D⟩:∃W,W=lz T (gG.mk [] out):=⟨_,rfl⟩;have I:cE W:=D▸aj.x7 (gG.mk [] out)
 have A:W.bf=T.bf.filter λx=>je T r x.aP:=by
  rw[D];show T.bf.filter _=_;refine wo λx b=>?_;have:=K x.aP (dg.2 ⟨x,b,rfl⟩)
  grind
 obtain⟨o,F,G⟩:=GS (f:=eS k f) (i:=r) (by rw[z];exact C)
 have aU:∀a∈(eS k f).aM,je T r a.ai=true->a.Database=o.Database:=λa m c=>by
  refine(LA h.h h.m (by rw[y];have:=h.k;rw[y]at this;exact this) F m ?_).symm;rw[y,G,<-H];exact c
 have ae:∀a∈(eS k f).aM,je T r a.ai=true->oq a.Database a.ai W:=λa m c=>by
  have N:a.ai∈ids T:=by rw[<-z];exact o2 m
  have ag:=seen h.h h.m h.k m;rw[y]at ag;rw[D];refine ag.view aj N λg L=>?_;rw[K g L];have c:=(H _).1 c;exact⟨λe=>c.symm.trans e,λe=>c.trans e⟩
 have Q:je T r o.ai=true:=by rw[H,G];exact .refl (by simp)
 have aL:eK o.Database:=(E.v.n o F).2.2;obtain⟨t,aK⟩:=Zc aL (ae o F Q) I;have aJ:(ids W).length<=24:=by have:=I.jP;simpa [ids]using this
 have O:=Zb t s aJ aK;obtain⟨⟨P,p⟩,aD,aa,aN,n,v,Z⟩:=aak t S O (Za t s);simp only at aa n;subst aa;have U:hC T r s W P:=by
  refine⟨I,⟨out,D,K⟩,λx b=>?_,?_,?_,?_,λx b=>?_,by rw[n],?_,by rw[n];exact Z,λx b=>?_,?_,?_⟩
  .rw[A]at b;have:=h.c x
   grind
  .obtain⟨x,b,p⟩:=dg.1 C;have:x∈W.bf:=by rw[A];exact gz.2 ⟨b,by rw[p];have:=Q;rw[G]at this;exact this⟩
   grind
  .classical
   rw[A];unfold rS ids;rw[List.filter_map,iO];congr 1;refine wo λx b=>?_
   grind
  .rw[n];exact WX t S O v Z
  .rw[n]at b;have:=v.mem_iff.1 b;unfold hc at this
   grind
  .rw[n];show aN.length<=24;rw[v.length_eq];exact O
  .rw[n]at b;have:=v.mem_iff.1 b;unfold hc at this;obtain⟨R,J,rfl⟩:=dg.1 this;exact(G1 (t.g R (gz.1 J).1)).1
  .rw[n];rcases CT (s:=s) (l:=W.bf.flatMap (kB o.Database)) (out:=0) t.g (.inr rfl)with e|⟨an,_,aq⟩
   .exact .inl e
   .refine .inr ⟨an,List.eq_nil_iff_forall_not_mem.2 λx b=>?_⟩;have:=v.mem_iff.1 b;unfold hc at this;obtain⟨R,J,rfl⟩:=dg.1 this;exact aq R (gz.1 J).1 (CU.1 (gz.1 J).2).1
  .rw[n];exact(v.symm.pairwise_iff λh p=>h p.symm).1 ((FB t s).imp λh p=>by omega)
 refine⟨W,P,?_,U⟩;have aA:rE (eS k f):=E.v.sm;have aV:(eS k f).aM.length<=24:=E.v.len
 have aG:∀a∈(eS k f).aM,je T r a.ai=true->pX a.Database a.ai=some W/\sy a.Database a.ai=some (W.bf.flatMap (kB o.Database))/\p3 W P a.ai=some (dW P (eG W) P.ck a.ai,0):=λa m c=>by
  have ak:=(E.v.n a m).2.2;obtain⟨aW,V,X⟩:=aaC ak.sm a.ai;have:=X.unique (ae a m c);subst this;refine⟨V,?_,U.builds _ ?_⟩
  .have:=Yb ak.sm V X I.jP
   grind
  .have N:a.ai∈ids T:=by rw[<-z];exact o2 m
   obtain⟨x,b,p⟩:=dg.1 N;exact dg.2 ⟨x,by rw[A];exact gz.2 ⟨b,by rw[p];exact c⟩,p⟩
 have aI:W.bf.map (λx=>dW P (eG W) P.ck x.aP)=((eS k f).aM.filter λj=>je T r j.ai).map λj=>dW P (eG W) P.ck j.ai:=by
  rw[A,<-z];show((List.map (λa:br=>bV.mk a.ai a.bK) (eS k f).aM).filter _).map _=_;rw[List.filter_map,nv];rfl
 rw[aI];refine aFo ?_;unfold BE;rw[F1 aA,aR,z];refine aFg (λw (e:yz×uX×mJ×Int×Int×zw)=>e.1=(w.filter λj=>je T r j.ai).map (λj=>dW P (eG W) P.ck j.ai)/\(o∈w->e.2=(W.bf,W.Links,P.bA,P.Length,P.ck))) ?_ _ ⟨rfl,by simp⟩ ?_
 .rintro w a aX ⟨l,aB,ay,aC,aE,ar⟩ a4 ab ⟨q,u⟩ M;simp only at q u;dsimp only;have m:a∈(eS k f).aM:=by rw[ab];simp
  have aT:w.length<(eS k f).aM.length:=by rw[ab];simp
  simp only[jn];rw[V7,aR];cases c:je T r a.ai with
  |false=>
   simp only[js,cm];refine M _ ⟨by simp only;rw[q,lB];simp[c],λd=>?_⟩;rcases dG.1 d with d|d
   .exact u d
   .rw[gL]at d;rw[<-d,Q]at c;cases c
  |true=>
   obtain⟨ax,az,aH⟩:=aG a m c;simp only[dk,bH,ax,az,aD,aH,aR,ef,ow];have am:l.length<1000000:=by
    rw[q,iO];exact Nat.lt_of_le_of_lt (oz _ _) (by omega)
   have Y:l++[dW P (eG W) P.ck a.ai]=((w++[a]).filter λj=>je T r j.ai).map λj=>dW P (eG W) P.ck j.ai:=by
    rw[q,lB,km];simp[c]
   rw[jU am,aR];refine Ok.cs (λ_=>?_) λao=>?_
   .exact M _ ⟨Y,λ_=>rfl⟩
   .refine M _ ⟨Y,λd=>?_⟩;rcases dG.1 d with d|d
    .exact u d
    .rw[gL]at d;subst d;simp[G]at ao
 .rintro⟨l,aB,ay,aC,aE,ar⟩ ⟨q,u⟩;simp only at q u;have:=u F;simp only[kJ]at this;obtain⟨rfl,rfl,rfl,rfl,rfl⟩:=this;dsimp only;rw[q];exact Ok.s rfl
def jE:aS:=aS.mk [bV.mk 1 true,bV.mk 2 true] [bm.mk 1 2 1 1 0]
def yH:cE jE:=ho.1 (by kernel_rfl)
theorem aan:eG jE (cT.mk 2 3) 1=[2]:=by
 have b:(1:Int)∈ids jE:=by show(1:Int)∈[1,2];simp
 have a:(2:Int)∈ids jE:=by show(2:Int)∈[1,2];simp
 have d2:fH jE 2 2=some 0:=Nl yH a;have d1:fH jE 1 2=some 1:=by
  rw[qq yH b a];obtain⟨e,c,d⟩:=MN (tf yH) (show hL jE 1 2=some 1 by kernel_rfl);have:=aaa (tf yH) c (by decide)
  grind
 unfold eG;show hK jE 2 1=[2];unfold hK;rw[show hH jE 1=[2]by kernel_rfl];have:p8 jE 2 1 2=true:=by
  unfold p8;rw[d1,d2];kernel_rfl
 simp[this]
def aao:BC=some true:=by
 have a:(af (uL (aS.mk ([(bV.mk (1:Int) true),(bV.mk (2:Int) true)]:uX) ([(bm.mk (1:Int) (2:Int) (1:Int) (1:Int) (0:Int))]:mJ)) ([(c1.mk (2:Int) (fx.mk (0:Int) (3:Int) (8:Int)))]:p6)) λ(h:aQ×Int)=>af (pU h.1 (1:Int)) λ(f:aQ×Int)=>af (pU f.1 (2:Int)) λ(g:aQ×Int)=>af (qR g.1) λ(c:aQ×Int)=>af (b6 c.1.aM (0:Int)) λ(i:br)=>af (sy i.Database (1:Int)) λ(n:(p6))=>af (uI n (0:Int)) λ(o:en×Int)=>af (pX i.Database (1:Int)) λ(t:aS)=>some (h.2,f.2,g.2,c.2,(c.1.aM.length:Int),o,t))=some (0,0,0,0,2,(en.mk 0 8 [cT.mk 2 3],0),jE):=by kernel_rfl
 obtain⟨x,v,a⟩:=az a;obtain⟨y,j,a⟩:=az a;obtain⟨z,k,a⟩:=az a;obtain⟨A,q,a⟩:=az a;obtain⟨D,r,a⟩:=az a;obtain⟨C,l,a⟩:=az a;obtain⟨B,s,a⟩:=az a;obtain⟨w,u,a⟩:=az a;simp only[ee,kJ]at a;obtain⟨dJ,bz,cw,nP,e7,rfl,rfl⟩:=a;have e:p3 jE (en.mk 0 8 [cT.mk 2 3]) 1=some (dW (en.mk 0 8 [cT.mk 2 3]) (eG jE) [cT.mk 2 3] 1,0):=by
  refine LK (p:=en.mk 0 8 [cT.mk 2 3]) yH (by kernel_rfl) (by kernel_rfl) (λd b=>?_) (λd b=>?_) (by simp) (by simp[jE,ids]) 1 (by simp[jE,ids])
  .have b:d∈[(1:Int),2]:=b;simp only[c5,hr,hG]at b;rcases b with rfl|rfl
   .exact(by kernel_rfl:hW jE 1=some true)
   .exact(by kernel_rfl:hW jE 2=some true)
  .have b:d∈[(1:Int),2]:=b;simp only[c5,hr,hG]at b;rcases b with rfl|rfl
   .exact(by kernel_rfl:lM jE 1=some true)
   .exact(by kernel_rfl:lM jE 2=some true)
 have m:dW (en.mk 0 8 [cT.mk 2 3]) (eG jE) [cT.mk 2 3] 1=cH.mk 1 0 8 [eR.mk 3 [2]]:=by
  unfold dW;simp only[dr,mO,aan]
 rw[m]at e;unfold BC;rw[v,aR,j,aR,k,aR,q,aR,dJ,bz,cw,nP,e7];simp only[ef,dk,ow,bH,r,l,s,u,e,aR,cm];rfl
end
section
open Go
section
variable {T:aS}{out:bX}{r:Int}
def Pd(f:cE T){x y:Int}(l:x∉out)(m:y∉out):hL (lz T (gG.mk [] out)) x y=hL T x y:=by
 have h:=f.x7 (gG.mk [] out);have n:∀a:bm,oo (gG.mk [] out) a=(decide (a.A∈out)||decide (a.B∈out)):=λa=>by simp[oo,mg]
 have i:∀a,a∈(lz T (gG.mk [] out)).Links↔a∈T.Links/\a.A∉out/\a.B∉out:=λa=>by
  show a∈T.Links.filter _↔_;rw[gz];simp only[n,Bool.not_or,b9,gD,iz]
 apply Option.ext;intro o;rw[mu,mu];constructor
 .rintro⟨g,d⟩;obtain⟨a,c,b⟩:=iJ.1 g;have e:=((i a).1 c).1;refine⟨iJ.2 ⟨a,e,b⟩,?_⟩;rw[ms h c (by simp[gf];exact b)]at d;rw[ms f e (by simp[gf];exact b)];exact d
 .rintro⟨g,d⟩;obtain⟨a,e,b⟩:=iJ.1 g;have c:=(i a).2 ⟨e,by rcases b with⟨j,k⟩|⟨j,k⟩<;>simp[j,k,l,m]⟩;refine⟨iJ.2 ⟨a,c,b⟩,?_⟩;rw[ms f e (by simp[gf];exact b)]at d;rw[ms h c (by simp[gf];exact b)];exact d
theorem MU(e:cE T){x y w:Int}(h:hL (lz T (gG.mk [] out)) x y=some w):hL T x y=some w:=by
 have i:=e.x7 (gG.mk [] out);have g:∀a:bm,oo (gG.mk [] out) a=(decide (a.A∈out)||decide (a.B∈out)):=λa=>by simp[oo,mg]
 obtain⟨a,b,f⟩:=iJ.1 (mu.1 h).1;have b:a∈T.Links.filter λa=>!oo (gG.mk [] out) a:=b;rw[gz]at b;simp only[g,Bool.not_or,b9,gD,iz]at b;rw[<-Pd e (out:=out) (by rcases f with⟨c,d⟩|⟨c,d⟩<;>grind) (by rcases f with⟨c,d⟩|⟨c,d⟩<;>grind)];exact h
def Pe(e:cE T)(f:r∈ids T)(g:∀y∈ids T,(y∉out↔ds T [] r y)){a b m:Int}(j:ds T [] r a)(h:fS (hL T) a b m):fS (hL (lz T (gG.mk [] out))) a b m/\ds T [] r b:=by
 induction h with
 |nil=>exact⟨.nil,j⟩
 |@snoc x b m k h1 i c=>
  have d:ds T [] r b:=.step c.2 (mu.1 i).1 (by simp);refine⟨.snoc c.1 ?_,d⟩;rw[Pd e ((g _ (c.2.ids e f)).2 c.2) ((g _ (d.ids e f)).2 d)];exact i
def Om(c:cE T){a b m:Int}(h:fS (hL (lz T (gG.mk [] out))) a b m):fS (hL T) a b m:=by
 induction h with
 |nil=>exact .nil
 |@snoc x b m k h1 d e=>exact .snoc e (MU c d)
theorem Hv{y:Int}:y∈ids (lz T (gG.mk [] out))↔y∈ids T/\y∉out:=by
 unfold ids;show y∈(T.bf.filter _).map _↔_
 grind
def acv(c:cE T)(f:r∈ids T)(g:∀y∈ids T,(y∉out↔ds T [] r y)){a b:Int}(e:ds T [] r a)(l:ds T [] r b):fH (lz T (gG.mk [] out)) a b=fH T a b:=by
 have m:=c.x7 (gG.mk [] out);have h:=e.ids c f;have i:=l.ids c f;rw[qq c h i,qq m (Hv.2 ⟨h,(g _ h).2 e⟩) (Hv.2 ⟨i,(g _ i).2 l⟩)];apply Option.ext;intro n;rw[j5,j5];exact⟨λd=>⟨Om c d.1,λk j=>d.2 k (Pe c f g e j).1⟩,λd=>⟨(Pe c f g e d.1).1,λk j=>d.2 k (Om c j)⟩⟩
end
def WD{t:aS}(a:cE t){x v n:Int}(h:n∈hK t x v):n∈hK t n v:=by
 obtain⟨j,q,p,e,b,f,l⟩:=(vn a).1 h;obtain⟨i,c,k⟩:=aag a e;obtain⟨o,d,m⟩:=Q8 c b;rw[f]at d;cases d;have g:=(tr b).2.1;exact(vn a).2 ⟨j,0,i,e,Nl a g,c,by omega⟩
def gv(x:Int):Prop:=0<=x/\x<18446744073709551616
def dy(x:Int)(i:Nat):Bool:=(BitVec.ofInt 64 x).getLsbD i
def tQ(n:Int):IntKind.wrap .u64 n=n%18446744073709551616:=by
 simp[IntKind.wrap,IntKind.bits,IntKind.signed]
def E5{n:Int}(a:0<=n)(h:n<18446744073709551616):IntKind.wrap .u64 n=n:=by
 rw[tQ];omega
def Tu(a:BitVec 64):((a.toNat:Nat):Int)<18446744073709551616:=by
 have:=a.isLt;omega
theorem FX(a:BitVec 64):BitVec.ofInt 64 (IntKind.wrap .u64 (a.toNat:Int))=a:=by
 rw[E5 (by omega) (Tu a)]
 grind
variable {a b:Int}
def Ir:gv (bT .or .u64 a b):=by
 unfold bT gv;simp only;rw[tQ];omega
def zy:gv (bT .and .u64 a b):=by
 unfold bT gv;simp only;rw[tQ];omega
def yR:gv (bT .andNot .u64 a b):=by
 unfold bT gv;simp only;rw[tQ];omega
def xU(a b:Int)(i:Nat):dy (bT .or .u64 a b) i=(dy a i||dy b i):=by
 unfold dy;rw[show bT .or .u64 a b=IntKind.wrap .u64 ((BitVec.ofInt 64 a ||| BitVec.ofInt 64 b).toNat:Int)from rfl,FX,BitVec.getLsbD_or]
def uS(a b:Int)(i:Nat):dy (bT .and .u64 a b) i=(dy a i&&dy b i):=by
 unfold dy;rw[show bT .and .u64 a b=IntKind.wrap .u64 ((BitVec.ofInt 64 a &&& BitVec.ofInt 64 b).toNat:Int)from rfl,FX,BitVec.getLsbD_and]
def Df(a:Int){i:Nat}(hi:64<=i):dy a i=false:=BitVec.getLsbD_of_ge _ _ hi
def uT(a b:Int)(i:Nat):dy (bT .andNot .u64 a b) i=(dy a i&&!dy b i):=by
 by_cases c:i<64
 .unfold dy;rw[show bT .andNot .u64 a b=IntKind.wrap .u64 ((BitVec.ofInt 64 a &&& ~~~BitVec.ofInt 64 b).toNat:Int)from rfl,FX,BitVec.getLsbD_and,BitVec.getLsbD_not];simp[c]
 .rw[Df _ (by omega),Df a (by omega),tZ]
def nZ(i:Nat):dy 0 i=false:=by simp[dy]
theorem FJ{x:Int}(h:gv x):(BitVec.ofInt 64 x).toNat=x.toNat:=by
 obtain⟨a,b⟩:=h
 grind
def vJ(d:gv a)(c:gv b)(h:∀i,i<64->dy a i=dy b i):a=b:=by
 have e:BitVec.ofInt 64 a=BitVec.ofInt 64 b:=BitVec.eq_of_getLsbD_eq λi f=>h i f;have:=fq BitVec.toNat e;rw[FJ d,FJ c]at this;have:=d.1;have:=c.1;omega
def gK(k:Nat):Int:=2 ^ k
variable {k:Nat}
theorem Hw(h:k<64):gv (gK k):=by
 unfold gv gK;have a:(2:Int) ^ k<=2 ^ 63:=by
  have:=v1 (n:=2) (by decide) (show k<=63 by omega)
  exact_mod_cast this
 grind
def z1{n:Int}(a:0<=n)(h:n<64):IntKind.wrap .u64 ((1:Int)*2 ^ min n.toNat 64)=gK n.toNat:=by
 rw[o7 (by omega),Int.one_mul];have:=Hw (k:=n.toNat) (by omega);exact E5 this.1 this.2
def y9(b:gv a)(i:Nat):dy a i=a.toNat.testBit i:=by
 unfold dy;rw[<-BitVec.testBit_toNat,FJ b]
theorem n0(k i:Nat)(a:k<64):dy (gK k) i=decide (i=k):=by
 rw[y9 (Hw a)];unfold gK;rw[show((2:Int) ^ k).toNat=2 ^ k by rw[show(2:Int) ^ k=((2 ^ k:Nat):Int)by simp];rfl,Nat.testBit_two_pow]
 grind
def vK:gv 0:=by unfold gv;omega
theorem aap(b:gv a)(h:a≠0):∃i,i<64/\dy a i=true:=by
 refine zG λc=>h (vJ b vK λi d=>?_);rw[nZ]
 grind
theorem acw(a:Int)(k:Nat):Int.fdiv a (2 ^ k)=a / ((2 ^ k:Nat):Int):=by grind
def aaq(a:Int)(o:k<64):dy (Int.fdiv a (2 ^ k)) 0=dy a k:=by
 unfold dy;rw[acw,<-BitVec.testBit_toNat,<-BitVec.testBit_toNat,BitVec.toNat_ofInt,BitVec.toNat_ofInt];generalize g:a%((2 ^ 64:Nat):Int)=b;have j:0<=b:=by rw[<-g];exact Int.emod_nonneg _ (by decide)
 have f:a=((2 ^ 64:Nat):Int)*(a / ((2 ^ 64:Nat):Int))+b:=by rw[<-g];exact(Int.mul_ediv_add_emod a _).symm
 have h:((2 ^ 64:Nat):Int)=((2 ^ k:Nat):Int)*((2 ^ (63-k):Nat):Int)*2:=by
  rw[<-Int.natCast_mul,<-nk,show k+(63-k)=63 by omega];rfl
 have l:a / ((2 ^ k:Nat):Int)=((2 ^ (63-k):Nat):Int)*2*(a / ((2 ^ 64:Nat):Int))+b / ((2 ^ k:Nat):Int):=by
  generalize a / ((2 ^ 64:Nat):Int)=d at f;rw[f,h,Int.mul_assoc ((2 ^ k:Nat):Int),Int.mul_assoc ((2 ^ k:Nat):Int),Int.mul_add_ediv_left _ _ (by have:=Nat.pow_pos (n:=k) (show 0<2 by decide);omega)]
 have m:(b / ((2 ^ k:Nat):Int))=((b.toNat / 2 ^ k:Nat):Int):=by
  rw[Int.natCast_ediv,Int.toNat_of_nonneg j]
 rw[l,m,Nat.testBit_zero];rw[show b.toNat.testBit k=decide (b.toNat / 2 ^ k%2=1)by rw[Nat.testBit_eq_decide_div_mod_eq]];congr 1;generalize b.toNat / 2 ^ k=c;generalize a / ((2 ^ 64:Nat):Int)=d;generalize ((2 ^ (63-k):Nat):Int)=e;have:(e*2*d+(c:Int))%((2 ^ 64:Nat):Int)%2=(c:Int)%2:=by
  rw[Int.emod_emod_of_dvd _ (by decide),Int.mul_comm e 2,Int.mul_assoc,Int.mul_add_emod_self_left]
 have i:0<=(e*2*d+(c:Int))%((2 ^ 64:Nat):Int):=Int.emod_nonneg _ (by decide);generalize (e*2*d+(c:Int))%((2 ^ 64:Nat):Int)=p at this i;apply propext;omega
theorem Pf(a:Int){n:Int}(e:0<=n)(h:n<64):bT .and .u64 (Int.fdiv a (2 ^ min n.toNat 64)) 1=if dy a n.toNat then 1 else 0:=by
 rw[o7 (by omega)];have f:gv 1:=by unfold gv;omega
 refine vJ zy (by split<;>(unfold gv;omega)) λb _=>?_;rw[uS];have d:dy 1 b=decide (b=0):=n0 0 b (by omega);rw[d];by_cases c:b=0
 .subst c;rw[aaq a (by omega)];cases dy a n.toNat
  .simp[nZ]
  .grind
 .simp only[c,jQ,Bool.and_false];split
  .rw[d];simp[c]
  .rw[nZ]
def aar:∀k:Fin 64,b6 r9 (Int.fdiv (IntKind.wrap .u64 (((2 ^ k.val:Nat):Int)*(285870213051353865:Int))) (2 ^ min (58:Int).toNat 64))=some ((k.val:Nat):Int):=by decide +kernel
theorem aas{k m:Nat}(j:k<64)(d:2 ^ k*(2*m+1)<2 ^ 64):(2 ^ k*(2*m+1)) &&& (2 ^ 64-2 ^ k*(2*m+1))=2 ^ k:=by
 have c:2 ^ 64=2 ^ k*2 ^ (64-k):=by rw[<-nk];congr 1;omega
 have l:2*m+1<2 ^ (64-k):=by
  rw[c]at d;exact Nat.lt_of_mul_lt_mul_left d
 have h:2 ^ 64-2 ^ k*(2*m+1)=2 ^ k*(2 ^ (64-k)-(2*m+1)):=by rw[c,Nat.mul_sub]
 rw[h];refine Nat.eq_of_testBit_eq λb=>?_;rw[Nat.testBit_and,v2,v2,Nat.testBit_two_pow];by_cases i:k<=b
 .obtain⟨a,rfl⟩:∃a,b=k+a:=⟨b-k,by omega⟩;have e:(2 ^ (64-k)-(2*m+1)).testBit a=(decide (a<64-k)&&!(2*m).testBit a):=Nat.testBit_two_pow_sub_succ (by omega) a;simp only[Nat.add_sub_cancel_left,e,show k<=k+a by omega,ef,hq];cases a with
  |zero=>
   simp[Nat.testBit_zero];omega
  |succ a=>
   have f:(2*m+1).testBit (a+1)=m.testBit a:=by rw[Nat.testBit_succ];congr 1;omega
   have g:(2*m).testBit (a+1)=m.testBit a:=by rw[Nat.testBit_succ];congr 1;omega
   rw[f,g];cases m.testBit a<;>simp<;>omega
 .grind
theorem Tv{b:Int}(d:gv b)(l:b≠0):∃k:Nat,k<64/\dy b k=true/\(∀j,j<k->dy b j=false)/\Aq b=some (k:Int):=by
 obtain⟨a,rfl⟩:∃a:Nat,b=(a:Int):=⟨b.toNat,by have:=d.1;omega⟩;have f:a<2 ^ 64:=by have:=d.2;omega
 have u:0<a:=by omega
 obtain⟨k,m,e⟩:∃k m,a=2 ^ k*(2*m+1):=by
  clear d l f;induction a using Nat.strongRecOn with
  |_ a o=>
   by_cases v:a%2=0
   .obtain⟨k,m,p⟩:=o (a / 2) (by omega) (by omega);exact⟨k+1,m,by rw[Nat.pow_succ,Nat.mul_right_comm,<-p];omega⟩
   .exact⟨0,a / 2,by simp;omega⟩
 have c:k<64:=by
  refine Nat.lt_of_not_le λc=>?_;have n:2 ^ 64<=2 ^ k:=v1 (by decide) c
  grind
 have i:∀g,dy (a:Int) g=a.testBit g:=λg=>by rw[y9 d];rfl
 refine⟨k,c,?_,λj t=>?_,?_⟩
 .rw[i,e,v2];simp[Nat.testBit_zero]
 .rw[i,e,v2];simp;omega
 .unfold Aq;have q:IntKind.wrap .u64 (0-(a:Int))=((2 ^ 64-a:Nat):Int):=by rw[tQ];omega
  have r:bT .and .u64 (a:Int) ((2 ^ 64-a:Nat):Int)=((2 ^ k:Nat):Int):=by
   show IntKind.wrap .u64 ((BitVec.ofNat 64 a &&& BitVec.ofNat 64 (2 ^ 64-a)).toNat:Int)=_;have s:2 ^ k<2 ^ 64:=Nat.pow_lt_pow_right (by decide) c;rw[BitVec.toNat_and,s6,s6,nj f,nj (show 2 ^ 64-a<2 ^ 64 by omega)];have:=aas (k:=k) (m:=m) c (by rw[<-e];exact f);rw[<-e]at this;rw[this,tQ];omega
  have n:decide ((a:Int)=0)=false:=ff l;have h:=aar ⟨k,c⟩;simp only at h;rw[n,bH,q,r,h];show some (a2 (k:Int))=_;rw[fv (by omega) (by omega)]
def My{b:Int}(c:gv b)(a:b≠0):∃k:Nat,k<64/\dy b k=true/\(∀j,j<k->dy b j=false)/\xM b=some (k:Int):=by
 obtain⟨k,g,d,e,f⟩:=Tv c a;refine⟨k,g,d,e,?_⟩;unfold xM;rw[ff a,bH,f];rfl
theorem Ze{b:Int}(f:gv b){k:Nat}(e:dy b k=true)(i:∀j,j<k->dy b j=false)(v:k<64):bT .and .u64 b (IntKind.wrap .u64 (b-1))=bT .andNot .u64 b (gK k):=by
 have z:b≠0:=λt=>by rw[t,nZ]at e;cases e
 obtain⟨a,rfl⟩:∃a:Nat,b=(a:Int):=⟨b.toNat,by have:=f.1;omega⟩;have y:a<2 ^ 64:=by have:=f.2;omega
 have g:∀c,dy (a:Int) c=a.testBit c:=λc=>by rw[y9 f];rfl
 have l:IntKind.wrap .u64 ((a:Int)-1)=((a-1:Nat):Int):=by rw[tQ];omega
 rw[l];have o:gv ((a-1:Nat):Int):=by unfold gv;omega
 refine vJ zy yR λc A=>?_;rw[uS,uT,n0 k c v,g,y9 o];show(a.testBit c&&(a-1).testBit c)=_;rw[g]at e;have i:∀j,j<k->a.testBit j=false:=λj q=>by rw[<-g];exact i j q
 obtain⟨d,r⟩:∃d,a=2 ^ k*(2*d+1):=by
  have u:a%2 ^ k=0:=by
   refine Nat.eq_of_testBit_eq λj=>?_
   grind
  obtain⟨x,h⟩:=Nat.dvd_of_mod_eq_zero u;rw[h,v2]at e;simp only[ge_iff_le,eb,ef,Nat.sub_self,hq,Nat.testBit_zero,eY]at e;exact⟨x / 2,by rw[h];congr 1;omega⟩
 have w:a-1=2 ^ k*(2*d)+(2 ^ k-1):=by grind
 have n:2 ^ k-1<2 ^ k:=by have:=v3 k;omega
 rw[w,Nat.testBit_two_pow_mul_add _ n,r,v2];by_cases s:c<k
 .have:¬k<=c:=by omega
  simp[this]
 .obtain⟨j,rfl⟩:∃j,c=k+j:=⟨c-k,by omega⟩;simp only[s,h0,Nat.add_sub_cancel_left,show k<=k+j by omega,ef,hq];cases j with
  |zero=>simp[Nat.testBit_zero]
  |succ j=>
   have m:(2*d+1).testBit (j+1)=d.testBit j:=by rw[Nat.testBit_succ];congr 1;omega
   have p:(2*d).testBit (j+1)=d.testBit j:=by rw[Nat.testBit_succ];congr 1;omega
   rw[m,p];simp
def Hp{l:List eR}{f:eR->dw}(h:∀x∈l,f x=some false):nF l f=some false:=by
 unfold nF D4
 rw[show(bC l 0 _ _ ())=some (-1:Int)from i3 (L:=l) (λ_=>()) _ rfl (λc x d a4 a b=>by
  rw[h x (by rw[<-a];simp)];exact b) l [] rfl]
 rfl
variable {l:bX}
def Hq{f:Int->dw}(h:∀x∈l,f x=some false):su l f=some false:=by
 unfold su Ee
 rw[show(bC l 0 _ _ ())=some (-1:Int)from i3 (L:=l) (λ_=>()) _ rfl (λc x d a4 a b=>by
  rw[h x (by rw[<-a];simp)];exact b) l [] rfl]
 rfl
def Mz{l:yz}{f:cH->dw}(h:∀x∈l,f x=some false):uw l f=some false:=by
 unfold uw DW
 rw[show(bC l 0 _ _ ())=some (-1:Int)from i3 (L:=l) (λ_=>()) _ rfl (λc x d a4 a b=>by
  rw[h x (by rw[<-a];simp)];exact b) l [] rfl]
 rfl
def CV{α:Type}{L p r:List α}{x:α}(h:p++x::r=L)(d:L.length<=1000000)(b:0<p.length):∃y q,p=q++[y]/\b6 L (a2 ((p.length:Int)-1))=some y:=by
 obtain⟨q,y,rfl⟩:∃q y,p=q++[y]:=⟨p.dropLast,p.getLast (λc=>by simp[c]at b),(zS _).symm⟩;refine⟨y,q,rfl,?_⟩;have a:=fq List.length h;simp at a;rw[kV (by omega) (by simp;omega),<-h];have:=iy q y (x::r);simpa using this
theorem Q9(h:l.Pairwise (·<·))(c:l.length<=1000000):xy l=some true:=by
 unfold xy;refine i3 (L:=l) (λ_=>()) _ rfl (λi b m a4 d e=>?_) l [] rfl;unfold jn;by_cases f:0<i.length
 .obtain⟨a,j,rfl,g⟩:=CV d c f;have k:a<b:=by grind
  simp only[show decide ((0:Int)<((j++[a]).length:Int))=true from fU (by simp),g,aR,cm,show decide (b<=a)=false from ff (by omega),bH];exact e
 .grind
structure zz(b:cH):Prop where
 r:1<=b.ai/\b.ai<=99
 s:0<=b.bA/\b.bA<=7
 l:fM b.Length=true\/b.Length=0/\b.Rows=[]
 n:b.Rows.length<=24
 i:∀x∈b.Rows,1<=x.aP/\x.aP<=256
 x:∀x∈b.Rows,∀n∈x.Next,1<=n/\n<=99
 k:∀x∈b.Rows,x.Next.length<=24
 a:∀x∈b.Rows,x.Next.Pairwise (·<·)
 u:b.Rows.Pairwise λa c=>a.aP<c.aP
 o:∀x∈b.Rows,1<x.Next.length->b.ai∉x.Next
def Hr(n a b:Int):uU n a b=some (dT n a b):=rfl
def WE{r:Int}(h:r∉l):oG l r=some false:=by
 unfold oG AB
 rw[show(bC l 0 _ _ ())=some (-1:Int)from i3 (L:=l) (λ_=>()) _ rfl (λe d f a4 a b=>by
  have:r≠d:=λc=>h (by rw[<-a,c];simp);simp only[this,jQ,bH];exact b) l [] rfl]
 rfl
theorem FK{b:cH}(h:zz b):uO b=some 0:=by
 have D:=h.r;have E:=h.s;have l:=h.n
 have d:dT b.ai 1 99=true:=by unfold dT;simp;omega
 have y:dT b.bA 0 7=true:=by unfold dT;simp;omega
 have u:nF b.Rows xH=some false:=Hp λa c=>by
  have G:=h.i a c;unfold xH
  rw[Hr,show dT a.aP 1 256=true from by unfold dT;simp;omega,aR,Hq λm l=>by
   have:=h.x a c m l;unfold EU;rw[Hr,show dT m 1 99=true from by unfold dT;simp;omega];rfl]
  rfl
 have r:nF b.Rows Bd=some false:=Hp λa c=>by
  have:=h.k a c;unfold Bd;rw[ff (by omega)]
 have w:nF b.Rows (λf=>xI f b)=some false:=Hp λa c=>by
  unfold xI;by_cases z:1<a.Next.length
  .rw[WE (h.o a c z),fU (by omega)];rfl
  .grind
 unfold uO
 have A:bC b.Rows 0 (λ(k:Int) (d:eR) (p:Unit->ir) (e:Unit)=>match e with|()=>jn (λ(v:Bool)=>bif v then some (25:Int)else p ()) λg=>af (xy d.Next) λ(t:Bool)=>(bif !t then g true else(bif decide ((0:Int)<(k:Int))then af (b6 b.Rows (a2 ((k:Int)-(1:Int)))) λ(o:eR)=>g (decide (d.aP<=o.aP))else g false))) (λ(e:Unit)=>match e with|()=>af (nF b.Rows (λ(f:eR)=>xI f b)) λ(q:Bool)=>bif q then some (8:Int)else some (0:Int)) ()=some 0:=by
  refine i3 (L:=b.Rows) (λ_=>()) _ (by rw[w];rfl) (λB a H a4 j s=>?_) b.Rows [] rfl;have c:a∈b.Rows:=by rw[<-j];simp
  simp only[jn,Q9 (h.a a c) (by have:=h.k a c;omega),aR,dk,bH];by_cases x:0<B.length
  .obtain⟨i,C,rfl,d⟩:=CV j (by omega) x;have F:i.aP<a.aP:=by
    have:=h.u
    grind
   simp only[show decide ((0:Int)<((C++[i]).length:Int))=true from fU (by simp),d,aR,cm,show decide (a.aP<=i.aP)=false from ff (by omega),bH];exact s
  .grind
 unfold jn;unfold jn at A;simp only[Hr,d,y,tV,aR,dk,bH,u,r,show decide ((256:Int)<(b.Rows.length:Int))=false from ff (by omega)];rcases h.l with n|⟨n,aB⟩
 all_goals grind
variable {W:aS}{r:Int}
theorem vo(a:cE W){x:cT}(e:r∈ids W):(eG W x r).Pairwise (·<·)/\(eG W x r).length<=24/\(∀n∈eG W x r,n∈ids W)/\(1<(eG W x r).length->r∉eG W x r):=by
 unfold eG;by_cases c:r=x.ai
 .grind
 .rw[ff c,bH];refine⟨K9 a _ _,Yr a _ _,λn b=>yQ a b,λ_ d=>?_⟩;have:=GZ a d;omega
def Hs(a:cE W){n:Int}(h:n∈ids W):1<=n/\n<=99:=by
 obtain⟨c,b,rfl⟩:=dg.1 h;exact a.uz c b
variable {P:en}{T:aS}{fl:Int}
def hC.tab{s:Int}(h:hC T fl s W P)(Z:0<=s/\s<=7)(Q:r∈ids W):zz (dW P (eG W) P.ck r):=by
 have S:∀x∈(dW P (eG W) P.ck r).Rows,∃e∈P.ck,x=eR.mk e.aP (eG W e r):=λx H=>by
  obtain⟨e,O,rfl⟩:=dg.1 H;exact⟨e,O,rfl⟩
 refine⟨Hs h.v Q,by show 0<=P.bA/\P.bA<=7;rw[h.s];exact Z,?_,by show(P.ck.map _).length<=24;rw[iO];exact h.k,λx H=>?_,λx H n ab=>?_,λx H=>?_,λx H=>?_,?_,λx H X=>?_⟩
 .rcases h.b with q|⟨Y,aa⟩
  .exact .inl q
  .exact .inr ⟨Y,by show P.ck.map _=[];rw[aa];rfl⟩
 .obtain⟨e,O,rfl⟩:=S x H;exact h.i e O
 .obtain⟨e,O,rfl⟩:=S x H;exact Hs h.v ((vo h.v Q).2.2.1 n ab)
 .obtain⟨e,O,rfl⟩:=S x H;exact(vo h.v Q).2.1
 .obtain⟨e,O,rfl⟩:=S x H;exact(vo h.v Q).1
 .show(P.ck.map _).Pairwise _;rw[lq];exact h.u
 .obtain⟨e,O,rfl⟩:=S x H;exact(vo h.v Q).2.2.2 X
theorem hC.all{s:Int}(h:hC T fl s W P)(aa:0<=s/\s<=7):xp (W.bf.map λx=>dW P (eG W) P.ck x.aP)=some 0:=by
 have am:=h.v.jP;obtain⟨L,O⟩:∃L,L=W.bf.map λx=>dW P (eG W) P.ck x.aP:=⟨_,rfl⟩
 have Q:∀b∈L,∃r∈ids W,b=dW P (eG W) P.ck r:=λb H=>by
  rw[O]at H;obtain⟨x,Z,rfl⟩:=dg.1 H;exact⟨x.aP,dg.2 ⟨x,Z,rfl⟩,rfl⟩
 have aw:L.length<=24:=by rw[O,iO];exact am
 rw[<-O];unfold xp
 rw[ff (by omega),bH,Mz λb H=>by
  obtain⟨r,S,rfl⟩:=Q b H;unfold EI;rw[FK (h.tab aa S)];rfl,aR,bH]
 have ae:uw L (λaj=>AR aj L)=some false:=Mz λb H=>by
  obtain⟨r,S,rfl⟩:=Q b H;unfold AR;obtain⟨c,X⟩:∃c,b6 L 0=some c/\c∈L:=by
   cases ab:L with
   |nil=>rw[ab]at H;cases H
   |cons c q=>exact⟨c,iy [] c q,by simp⟩
  obtain⟨ar,ax,rfl⟩:=Q c X.2;rw[X.1,aR];simp[dW]
 refine i3 (L:=L) (λ_=>()) _ (by rw[ae];rfl) (λp x q a4 Y ag=>?_) L [] rfl;unfold jn;by_cases an:0<p.length
 .obtain⟨y,ak,rfl,ao⟩:=CV Y (by omega) an
  have ay:L.Pairwise λa b=>a.ai<b.ai:=by
   rw[O,lq];exact h.v.ic
  have aq:y.ai<x.ai:=by grind
  simp only[show decide ((0:Int)<((ak++[y]).length:Int))=true from fU (by simp),ao,aR,cm,show decide (x.ai<=y.ai)=false from ff (by omega),bH];exact ag
 .grind
def On{l:bX}(h:l.length<=100000):wY l=some l:=by
 unfold wY Ax;rw[g9 (by simp;omega)];rfl
theorem hC.find{s:Int}(h:hC T fl s W P)(S:r∈ids W):xX (W.bf.map λx=>dW P (eG W) P.ck x.aP) r=some (dW P (eG W) P.ck r,true):=by
 have ax:=h.v.jP;obtain⟨am,aj,ak⟩:=dg.1 S;refine aFo ?_;unfold xX;refine aFg (λQ (_:Unit)=>∀b∈Q,b.ai≠r) ?_ () (by simp) λ_ Y=>?_
 .rintro Q b aA _ a4 ab Y ae;have aa:b∈W.bf.map λx=>dW P (eG W) P.ck x.aP:=by rw[ab];simp
  obtain⟨x,ar,rfl⟩:=dg.1 aa;refine Ok.cs (λH=>?_) λH=>ae () λc O=>?_
  .have H:x.aP=r:=fF H;subst H;refine aFg (λZ (m:List eR)=>m=Z) ?_ _ rfl λm O=>Ok.s (by rw[O]);rintro Z row aq m aw X rfl ag;have an:row∈(dW P (eG W) P.ck x.aP).Rows:=by rw[X];simp
   obtain⟨e,ay,rfl⟩:=dg.1 an;have ao:=(vo h.v S (x:=e)).2.1;have O:m.length<1000000:=by
    have:=fq List.length X;have az:=h.k;simp[dW]at this;omega
   rw[On (by show(eG W e x.aP).length<=100000;omega),aR,jU O,aR];exact ag _ rfl
  .grind
 .exact absurd ak (Y _ (dg.2 ⟨am,aj,rfl⟩))
def uA(n m:Int):Bool:=decide (0<=n)&&decide (n<=m)
def rV(n:Int):Int:=if n=8 then 255 else if n=16 then 65535 else if n=32 then 4294967295 else 18446744073709551615
def vL(b n:Int):Bool:=fM n&&decide (bT .andNot .u64 b (rV n)=0)
def lF(p:c4):Bool:=(decide (1<=p.Mode)&&decide (p.Mode<=3))&&uA p.bA 7&&uA p.Set 31&&vL p.Bits p.Length&&uA p.e3 63&&uA p.gh 1023&&uA p.gH 256&&uA p.gJ 7&&decide ((p.gN.size:Int)<=64)
def oS{n:Int}(h:fM n=true):n=8\/n=16\/n=32\/n=64:=by simpa [fM]using h
def aat{n:Int}(h:fM n=true):Fb n=some (rV n):=by
 rcases oS h with rfl|rfl|rfl|rfl<;>kernel_rfl
def Zf(b n:Int):Bo b n=some (vL b n):=by
 unfold Bo vL;show(af (some (fM n)) _:dw)=_;rw[aR];cases a:fM n
 .rfl
 .simp only[cm,aat a,aR,hq]
theorem Ra(a b c d e f g h i j:Bool):(bif a then(bif b then(bif c then(bif d then(bif e then(bif f then(bif g then(bif h then(bif i then some j else some false)else some false)else some false)else some false)else some false)else some false)else some false)else some false)else some false)=some ((a&&b)&&c&&d&&e&&f&&g&&h&&i&&j):=by grind
def sL(p:c4):mZ p=some (lF p):=by
 unfold mZ q7 lF;simp only[aR,Zf];exact Ra _ _ _ _ _ _ _ _ _ _
theorem MA{n:Int}(h:fM n=true)(i:Nat):dy (rV n) i=decide ((i:Int)<n):=by
 by_cases f:i<64
 .have b:∀a:Nat,a<=64->dy (((2 ^ a-1:Nat)):Int) i=decide (i<a):=λa d=>by
   have c:gv ((2 ^ a-1:Nat):Int):=by
    have:=v1 (n:=2) (by decide) d;have e:0<2 ^ a:=Nat.pow_pos (by decide);unfold gv;omega
   rw[y9 c,rW,Nat.testBit_two_pow_sub_one]
  rcases oS h with rfl|rfl|rfl|rfl
  .rw[show rV 8=((2 ^ 8-1:Nat):Int)from rfl,b 8 (by decide)];exact decide_eq_decide.2 (by omega)
  .rw[show rV 16=((2 ^ 16-1:Nat):Int)from rfl,b 16 (by decide)];exact decide_eq_decide.2 (by omega)
  .rw[show rV 32=((2 ^ 32-1:Nat):Int)from rfl,b 32 (by decide)];exact decide_eq_decide.2 (by omega)
  .rw[show rV 64=((2 ^ 64-1:Nat):Int)from rfl,b 64 (by decide)];exact decide_eq_decide.2 (by omega)
 .rw[Df _ (by omega)];have:=oS h
  grind
theorem yx{b n:Int}:vL b n=true↔fM n=true/\∀i:Nat,dy b i=true->(i:Int)<n:=by
 unfold vL;rw[b9,eY];constructor
 .rintro⟨a,c⟩;refine⟨a,λi d=>?_⟩;have:=uT b (rV n) i;rw[c,nZ,d,MA a]at this;simpa using this
 .rintro⟨a,e⟩;refine⟨a,vJ yR vK λi _=>?_⟩;rw[uT,nZ,MA a]
  grind
def cS(b:Int):cR:=(List.range 64).filter λa=>dy b a
variable {b:Int}
def lS{i:Nat}:i∈cS b↔dy b i=true:=by
 unfold cS;rw[gz,pQ];refine⟨λa=>a.2,λa=>⟨?_,a⟩⟩;rcases Nat.lt_or_ge i 64 with c|c
 .exact c
 .rw[Df b c]at a;cases a
def LM{k:Nat}(e:k<64)(l:dy b k=true)(d:∀j,j<k->dy b j=false):cS b=k::cS (bT .andNot .u64 b (gK k)):=by
 have f:List.range 64=List.range k++k::(List.range (63-k)).map (λj=>k+(j+1)):=by
  have:(64:Nat)=k+((63-k)+1):=by omega
  rw[this,List.range_add,List.range_succ_eq_map,dr,nv];congr 2
 unfold cS;rw[f,lB,lB,List.filter_cons,List.filter_cons];have h:(List.range k).filter (λc=>dy b c)=[]:=qB.2 λj a=>by rw[d j (pQ.1 a)];simp
 have i:(List.range k).filter (λc=>dy (bT .andNot .u64 b (gK k)) c)=[]:=qB.2 λj a=>by rw[uT,d j (pQ.1 a)];simp
 have g:dy (bT .andNot .u64 b (gK k)) k=false:=by rw[uT,n0 k k e];simp
 rw[h,i];simp only[l,g,fE,lC,pL,h0];congr 1;refine wo λj a=>?_;obtain⟨c,_,rfl⟩:=dg.1 a;rw[uT,n0 k _ e,ff (by omega)];simp
def sV(b:Int):(cS b).length<=64:=by
 have:=oz (λa=>dy b a) (List.range 64)
 rwa [List.length_range]at this
theorem NO(i:gv b):xR b=some ((cS b).map Int.ofNat):=by
 unfold xR;refine DE (G:=λm=>m=some ((cS b).map Int.ofNat)) (λa:Int×bX=>gv a.1/\a.2++(cS a.1).map Int.ofNat=(cS b).map Int.ofNat) (λa=>(cS a.1).length) ⟨i,by simp⟩ (by have:=sV b;show(cS b).length<_;omega) ?_;rintro⟨k,n⟩ a4 ⟨d,e⟩ l;simp only at d e ⊢;by_cases c:k=0
 .rw[fU c];subst c;have:cS 0=[]:=by unfold cS;exact qB.2 λq _=>by rw[nZ];simp
  grind
 .rw[ff c];obtain⟨r,h,f,g,j⟩:=My d c;have p:=LM h f g;have o:n.length<=64:=by
   have:=fq List.length e;have:=sV b;simp at *;omega
  simp only[js,cm,j,af];rw[g9 (by simp;omega),Ze d f g h];refine l _ ⟨yR,?_⟩ ?_
  all_goals grind
theorem Rb(b:Int){k:Int}(a:0<=k)(h:k<64):BT b k=some (dy b k.toNat):=by
 unfold BT;have c:IntKind.wrap .u64 k=k:=E5 a (by omega);rw[fU a,fU h,cm,cm,c,fU a,Pf b a h];show some _=_
 simp_all
theorem Zg(b:Int):BO b=some ((cS b).map Int.ofNat):=by
 unfold BO;refine O3 (G:=λk=>k=some ((cS b).map Int.ofNat)) (λ(a:Int) (d:bX)=>d=((List.range a.toNat).filter λj=>dy b j).map Int.ofNat) 0 64 ?_ ?_ _ 0 [] rfl (by omega) (λ_=>by omega) rfl
 .intro a d a4 h e c i;have l:d.length<=64:=by grind
  have f:(a+1).toNat=a.toNat+1:=by omega
  unfold jn;rw[Rb b h e];show(bif dy b a.toNat then _ else _)=_;cases g:dy b a.toNat with
  |true=>
   rw[cm,g9 (by simp;omega)];refine i _ ?_;rw[f,List.range_succ,lB,km,<-c];simp[g];omega
  |false=>
   rw[bH];refine i _ ?_;rw[f,List.range_succ,lB,km,<-c];simp[g]
 .intro a d h e c;rw[e (by omega)]at c;rw[c];rfl
def Zh(b:Int):BA b=some ((cS b).length:Int):=by
 unfold BA;rw[Zg];simp[af]
def mS(l:bX)(b7:Int):Int:=if l=[]then 0 else l.getD (b7.toNat%l.length) 0
variable {b7:Int}
theorem MB(i:Int)(l:bX)(f:0<=b7):sK (eR.mk i l) b7=some (mS l b7):=by
 unfold sK mS;by_cases a:l=[]
 .subst a;rfl
 .have c:0<l.length:=List.length_pos_iff.2 a;have e:Int.tmod b7 (l.length:Int)=((b7.toNat%l.length:Nat):Int):=by grind
  have g:=Nat.mod_lt b7.toNat c;obtain⟨x,d,_,b⟩:=n2 (l:=l) (i:=((b7.toNat%l.length:Nat):Int)) (by omega) (by omega);rw[ff (by show ¬((l.length:Int)=0);omega),bH,bw a];show(eD (decide ((l.length:Int)≠0)) _:ir)=_;rw[fU (by omega)];show(af (b6 l (Int.tmod b7 (l.length:Int))) _:ir)=_;rw[e,d];simp only[rW]at b;rw[oy,b];rfl
variable {x:eR}
theorem Rc{b:cH}(e:x∈b.Rows)(h:∀y∈b.Rows,y.aP=x.aP->y=x)(d:x.Next.length<=100000):BS b x.aP=some (x,true):=by
 unfold BS;refine lX (G:=λi=>i=some (x,true)) (λc _=>x∉c) (λc y l m a4 f j k=>?_) () (by simp) (λ_ a=>absurd e a);show(bif decide (y.aP=x.aP)then _ else _)=_;by_cases a:y.aP=x.aP
 .have g:=h y (by rw[f];simp) a;subst g;rw[fU rfl,cm,On d];rfl
 .grind
theorem G2{α:Type}{f:α->Int}:∀{l:List α},l.Pairwise (λa b=>f a<f b)->∀{x y:α},x∈l->y∈l->f y=f x->y=x
 |[],_,_,_,g,_,_=>by cases g
 |a::r,h,x,y,c,d,e=>by
  have g:=fI.1 h;rcases c5.1 c with c|c
  .grind
  .rcases c5.1 d with d|d
   .grind
   .exact G2 g.2 c d e
def MC{id n:Int}(h:1<=id/\id<=256)(b:fM n=true):xo id n=some ((id-1) / n,(id-1)%n,true):=by
 unfold xo jn;have d:fM n=true:=b;rw[tV,b,tO,show dT id 1 256=true from by unfold dT;simp;omega,kV (n:=id-1) (by omega) (by omega),Int.tmod_eq_emod_of_nonneg (a:=id-1) (by omega),Int.tdiv_eq_ediv_of_nonneg (a:=id-1) (by omega)];have c:0<=(id-1) / n/\(id-1) / n<=256/\n≠0:=by
  rcases oS b with rfl|rfl|rfl|rfl<;>omega
 rw[kV (by omega) (by omega),fU c.2.2];rfl
def Pg{s n:Int}(d:0<=s/\s<=31)(c:0<=b/\b<n)(a:fM n=true)(h:s*n+b+1<=256):q5 s b n=some (s*n+b+1,true):=by
 unfold q5 jn;have e:0<=s*n/\s*n<=2000/\n<=64:=by
  rcases oS a with rfl|rfl|rfl|rfl<;>omega
 rw[tV,a,tO,tO,kV (n:=n-1) (by omega) (by omega),show dT b 0 (n-1)=true from by unfold dT;simp;omega,show dT s 0 31=true from by unfold dT;simp;omega];rw[kV (n:=s*n) (by omega) (by omega),kV (n:=s*n+b) (by omega) (by omega),kV (n:=s*n+b+1) (by omega) (by omega),ff (show ¬256<s*n+b+1 by omega)];rfl
def LN{b:cH}(h:zz b){s:Int}(a:0<=b7/\b7<8)(c:0<=s/\s<=31):xS b b7 s=some true:=by
 unfold xS;rw[FK h,fU a.1,fU a.2,fU c.1,fU c.2];rfl
def Zi{b:cH}(h:zz b)(c:0<=b7/\b7<8)(a:x∈b.Rows):BL b x.aP b7=some (mS x.Next b7):=by
 unfold BL;rw[LN h c (by omega),aR,Rc a (λf d e=>G2 h.u a d e) (by have:=h.k x a;omega),aR];show(af (sK (eR.mk x.aP x.Next) b7) _:ir)=_;rw[MB _ _ c.1];rfl
def DD(b:cH)(b7 s n:Int)(i:Nat)(x:eR):Prop:=n≠0/\mS x.Next b7=n/\(x.aP-1) / b.Length=s/\(x.aP-1)%b.Length=i
theorem ZW{b:cH}(h:zz b)(m:fM b.Length=true){s:Int}(o:0<=b7/\b7<8)(t:0<=s/\s<=31)(n:Int):∃M,BM b b7 s n=some M/\∀i,dy M i=true↔∃x∈b.Rows,DD b b7 s n i x:=by
 unfold BM;rw[LN h o t,aR];show ∃M,af (sF b b7 s) _=some M/\_;unfold sF
 suffices hk:∃d,sF b b7 s=some d/\∀n i,dy ((aO d n).getD 0) i=true↔∃x∈b.Rows,DD b b7 s n i x by
  obtain⟨d,a,c⟩:=hk;unfold sF at a;rw[a];exact⟨_,rfl,c n⟩
 unfold sF;refine lX (G:=λy=>∃d,y=some d/\∀n i,dy ((aO d n).getD 0) i=true↔∃x∈b.Rows,DD b b7 s n i x) (λq d=>∀n i,dy ((aO d n).getD 0) i=true↔∃x∈q,DD b b7 s n i x) ?_ [] (λn i=>by simp[aO,nZ]) λd f=>⟨d,rfl,f⟩;intro q x z d a4 u f p;have r:x∈b.Rows:=by rw[u];simp
 have w:=h.i x r;rw[MC w m];simp only[jn];rw[aR];have v:sK x b7=some (mS x.Next b7):=MB x.aP x.Next o.1;rw[v,aR];have k:0<=(x.aP-1)%b.Length/\(x.aP-1)%b.Length<64:=by
  rcases oS m with j|j|j|j<;>rw[j]<;>omega
 by_cases e:(x.aP-1) / b.Length=s/\mS x.Next b7≠0
 .simp only[e.1,e.2,ef,jQ,js,up,cm];rw[fU k.1,jT rfl,z1 k.1 k.2];refine p _ λn i=>?_;rw[ih];by_cases l:n=mS x.Next b7
  .subst l;rw[bx rfl];show dy (bT .or .u64 _ _) i=true↔_;rw[xU,n0 _ _ (by omega),kZ,f];simp only[dG,gL,eY];constructor
   .rintro(⟨g,a,c⟩|a)
    .grind
    .exact⟨x,.inr rfl,e.2,rfl,e.1,by omega⟩
   .rintro⟨g,a|rfl,c⟩
    .grind
    .have:=c.2.2.2;exact .inr (by omega)
  .rw[bw l,f];constructor
   .grind
   .rintro⟨g,a,c⟩;rcases dG.1 a with a|a
    .exact⟨g,a,c⟩
    .rw[gL]at a;subst a;exact absurd c.2.1.symm l
 .have:(decide ((x.aP-1) / b.Length=s)&&!decide (mS x.Next b7=0))=false:=by grind
  simp only[this,bH];refine p _ λn i=>?_;rw[f];constructor
  .grind
  .rintro⟨g,a,c⟩;rcases dG.1 a with a|a
   .exact⟨g,a,c⟩
   .rw[gL]at a;subst a;exact absurd ⟨c.2.2.1,by rw[c.2.1];exact c.1⟩ e
end
section
open Go
section
variable {T:aS}{fl s:Int}{W:aS}{P:en}
def hC.mem(h:hC T fl s W P)(H:cE T)(O:fl∈ids T){y:Int}:y∈ids W↔ds T [] fl y:=by
 obtain⟨out,rfl,Q⟩:=h.w;rw[Hv];exact⟨λq=>(Q _ q.1).1 q.2,λq=>⟨q.ids H O,(Q _ (q.ids H O)).2 q⟩⟩
def hC.Is(h:hC T fl s W P)(H:cE T)(O:fl∈ids T){a b:Int}(S:a∈ids W)(Q:b∈ids W):fH W a b=fH T a b:=by
 have Z:=(h.mem H O).1 S;have Y:=(h.mem H O).1 Q;obtain⟨out,rfl,X⟩:=h.w;exact acv H O X Z Y
def hC.near(h:hC T fl s W P)(H:cE T)(O:fl∈ids T){a b:Int}(S:a∈ids W)(Q:b∈ids W):∃k,fH W a b=some k:=by
 have Y:=(h.mem H O).1 S;have X:=(h.mem H O).1 Q;rw[h.Is H O S Q];exact hZ.1 ((aaf H (Y.ids H O) (X.ids H O)).2 (Y.symm.trans X))
def hC.hop(h:hC T fl s W P)(H:cE T)(Q:fl∈ids T){v x n:Int}(Z:x∈ids W)(Y:n∈hK W v x):n∈hK T n x:=by
 have O:=yQ h.v Y;obtain⟨w,m,k,ab,S,X,aa⟩:=(vn h.v).1 (WD h.v Y);rw[h.Is H Q O O]at S;rw[h.Is H Q Z O]at X;obtain⟨out,rfl,ae⟩:=h.w;exact(vn H).2 ⟨w,m,k,MU H ab,S,X,aa⟩
theorem Zj{l:bX}(h:l≠[])(a:Int):mS l a∈l:=by
 have b:0<l.length:=List.length_pos_iff.2 h;have c:=Nat.mod_lt a.toNat b;unfold mS
 grind
theorem hC.way(h:hC T fl s W P)(Q:cE T)(S:fl∈ids T){x:cT}(X:x∈P.ck){r:Int}(Y:r∈ids W)(b7:Int):mS (eG W x r) b7∈eG W x r:=by
 refine Zj (λe=>?_) b7;unfold eG at e;by_cases O:r=x.ai
 .grind
 .rw[ff O,bH]at e;obtain⟨k,Z⟩:=h.near Q S Y (h.e x X);obtain⟨y,H⟩:=aae Z O;rw[e]at H;cases H
theorem hC.own(h:hC T fl s W P){x:cT}{r n:Int}(H:n∈eG W x r):(n=r->r=x.ai)/\(n≠r->n∈hK W x.ai r/\lV W x.ai n<lV W x.ai r):=by
 unfold eG at H;by_cases O:r=x.ai
 .grind
 .rw[ff O,bH]at H;have:=GZ h.v H
  grind
end
def CH(b:Int):(cS b).Nodup:=List.nodup_range.filter _
def MD{b:Int}{l:cR}(a:l.Nodup)(h:∀i,dy b i=true↔i∈l):(cS b).Perm l:=
 (List.perm_ext_iff_of_nodup (CH b) a).2 λi=>by rw[lS,h]
def W1(b m:Int):(cS (bT .and .u64 b m)++cS (bT .andNot .u64 b m)).Perm (cS b):=by
 have c:cS (bT .and .u64 b m)=(cS b).filter λa=>dy m a:=by
  unfold cS;rw[List.filter_filter];exact wo λa _=>by rw[uS,Bool.and_comm]
 have d:cS (bT .andNot .u64 b m)=(cS b).filter λa=>!dy m a:=by
  unfold cS;rw[List.filter_filter];exact wo λa _=>by rw[uT,Bool.and_comm]
 rw[c,d];exact List.filter_append_perm _ _
variable {k:Nat}
def NJ(a:k<64):cS (gK k)=[k]:=
 List.perm_singleton.1 (MD (jX.2 ⟨hr,nx⟩) λb=>by rw[n0 k b a];simp)
def ya:cS 0=[]:=qB.2 λa _=>by rw[nZ];simp
def Zk{b:Int}(e:k<64)(h:k∉cS b):(cS (bT .or .u64 b (gK k))).Perm (cS b++[k]):=
 MD (uf.2 ⟨CH b,jX.2 ⟨hr,nx⟩,λg c i a=>by
  rw[gL]at a;exact λd=>h (by rw[<-a,<-d];exact c)⟩) λf=>by
  rw[xU,n0 k f e,dG,lS,gL,kZ,eY]
def Yd{b:Int}(e:k<64)(h:∀j∈cS b,j<k):cS (bT .or .u64 b (gK k))=cS b++[k]:=by
 have f:List.range 64=List.range k++k::(List.range (63-k)).map (λj=>k+(j+1)):=by
  have:(64:Nat)=k+((63-k)+1):=by omega
  rw[this,List.range_add,List.range_succ_eq_map,dr,nv];congr 2
 have d:∀j,k<=j->dy b j=false:=λj c=>by
  cases i:dy b j
  .rfl
  .have:=h j (lS.2 i);omega
 unfold cS;rw[f,lB,lB,List.filter_cons,List.filter_cons]
 have l:(List.range k).filter (λa=>dy (bT .or .u64 b (gK k)) a)=(List.range k).filter (λa=>dy b a):=wo λj c=>by
  have:=pQ.1 c;rw[xU,n0 k j e,ff (by omega),Bool.or_false]
 have m:((List.range (63-k)).map (λj=>k+(j+1))).filter (λa=>dy (bT .or .u64 b (gK k)) a)=[]:=qB.2 λj c=>by
  obtain⟨a,_,rfl⟩:=dg.1 c;rw[xU,n0 k _ e,d _ (by omega),ff (by omega)];simp
 have g:((List.range (63-k)).map (λj=>k+(j+1))).filter (λa=>dy b a)=[]:=qB.2 λj c=>by
  obtain⟨a,_,rfl⟩:=dg.1 c;rw[d _ (by omega)];simp
 rw[l,m,g,xU,n0 k k e,d k (by omega)];simp
theorem G3{b:Int}(h:k∈cS b):k<64:=by
 unfold cS at h
 grind
def tg{b:Int}(a:gv b)(h:b≠0):0<(cS b).length:=by
 obtain⟨d,_,c⟩:=aap a h;exact List.length_pos_of_mem (lS.2 c)
def iH(P:en)(id:Int):Int:=((P.ck.find? λa=>decide (a.aP=id)).map (·.ai)).getD 0
def G4{P:en}{id:Int}(h:∃e∈P.ck,e.aP=id):cT.mk (iH P id) id∈P.ck:=by
 unfold iH;cases a:P.ck.find? λe=>decide (e.aP=id)with
 |none=>
  obtain⟨e,d,f⟩:=h;have:=wq.1 a e d;simp[f]at this
 |some e=>
  have c:=pP a;have b:=r6 a;simp only[eY]at b;rw[<-b];exact c
def gd(s n:Int)(k:Nat):Int:=s*n+k+1
def CI{s n id:Int}(a:fM n=true)(b:(k:Int)<n):id=gd s n k↔(id-1) / n=s/\(id-1)%n=k:=by
 unfold gd;rcases oS a with rfl|rfl|rfl|rfl<;>omega
end
section
open Go
variable {p:c4}
theorem vp:lF p=true↔(1<=p.Mode/\p.Mode<=3)/\(0<=p.bA/\p.bA<=7)/\(0<=p.Set/\p.Set<=31)/\vL p.Bits p.Length=true/\(0<=p.e3/\p.e3<=63)/\(0<=p.gh/\p.gh<=1023)/\(0<=p.gH/\p.gH<=256)/\(0<=p.gJ/\p.gJ<=7)/\(p.gN.size:Int)<=64:=by
 unfold lF uA
 grind
def xA(p:c4)(t b:Int):c4:=c4.mk p.Mode p.bA p.Set p.Length t p.gh p.gH p.gJ b p.gN
def Oo(h:lF p=true){t b:Int}(d:0<=t/\t<=63)(c:∀i,dy b i=true->dy p.Bits i=true):lF (xA p t b)=true:=by
 obtain⟨e,f,g,a,l,j⟩:=vp.1 h;rw[yx]at a;exact vp.2 ⟨e,f,g,yx.2 ⟨a.1,λi k=>a.2 i (c i k)⟩,d,j⟩
def Ye(a:lF p=true){m:Int}(c:p.e3≠0)(b:bT .and .u64 p.Bits m≠0):xJ p m=some (xA p (p.e3-1) (bT .and .u64 p.Bits m),true):=by
 unfold xJ;have:=(vp.1 a).2.2.2.2.1;simp only[jn,sL,a,aR,dk,bH,ff c,ff b,kV (n:=p.e3-1) (by omega) (by omega)];rfl
def ZX(e:lF p=true){b:Int}(a:0<=b)(c:b<64)(d:dy p.Bits b.toNat=true):BF p b=some (xA p p.e3 (gK b.toNat)):=by
 unfold BF;have f:¬b<0:=by omega
 have g:¬63<b:=by omega
 simp only[jn,sL,e,aR,dk,bH,ff f,ff g,fU a,eD,cm,Pf p.Bits a c,d,fE,z1 a c];rfl
structure ve(W:aS)(P:en)(r:Int)(p:c4):Prop where
 v:lF p=true
 m:p.Mode=1
 s:p.bA=P.bA
 l:p.Length=P.Length
 b:gv p.Bits
 e:∀k∈cS p.Bits,∃x∈P.ck,x.aP=gd p.Set p.Length k
 t:∀k∈cS p.Bits,(lV W (iH P (gd p.Set p.Length k)) r:Int)<=p.e3
structure zk(W:aS)(P:en)(r:Int)(p:c4)(c:iU):Prop where
 f:c.Frame.jS=[]
 i:c.bS∈ids W
 n:∃v,c.bS∈hK W v r
 w:ve W P c.bS c.Frame.cg
 s:c.Frame.cg.Set=p.Set
 z:c.Frame.cg.Bits≠0
 k:∀k∈cS c.Frame.cg.Bits,lV W (iH P (gd p.Set p.Length k)) c.bS<lV W (iH P (gd p.Set p.Length k)) r
def me(c:iU):cR:=cS c.Frame.cg.Bits
structure wG(W:aS)(P:en)(r:Int)(p:c4)(fG:Int)(fP:List iU):Prop where
 b:gv fG
 q:(cS fG++fP.flatMap me).Perm (cS p.Bits)
 o:∀k∈cS fG,iH P (gd p.Set p.Length k)=r
 c:∀c∈fP,zk W P r p c
def yb{α β:Type}{g:α->List β}:∀{l:List α},(∀c∈l,0<(g c).length)->l.length<=(l.flatMap g).length
 |[],_=>Nat.zero_le _
 |c::l,h=>by
  have d:=h c (by simp);have b:=yb (l:=l) λc a=>h c (by simp[a]);rw[nt,dF,fW];omega
def zk.pos{W:aS}{P:en}{r:Int}{c:iU}(h:zk W P r p c):0<(me c).length:=tg h.w.b h.z
section
variable {T:aS}{fl s:Int}{W:aS}{P:en}
theorem W2(h:hC T fl s W P)(aN:0<=s/\s<=7)(ae:cE T)(ag:fl∈ids T){r:Int}(E:r∈ids W){p:c4}(d:ve W P r p):
  ∃i k,A9 (dW P (eG W) P.ck r) p=some (jk.mk i 0 k,0)/\wG W P r p i k:=by
 have F:=h.tab aN E;obtain⟨bB,bD,aq,aZ,a5,a7,bF⟩:=vp.1 d.v;obtain⟨A,ay⟩:=yx.1 aZ;obtain⟨u,aB⟩:∃u,u=Int.tmod p.gh 8:=⟨_,rfl⟩;have ao:0<=u/\u<8:=by rw[aB,Int.tmod_eq_emod_of_nonneg a7.1];omega
 have bb:Bq p=some u:=by
  unfold Bq;rw[sL,d.v,aB];rfl
 have bo:decide (p.Mode=2)=false:=ff (by rw[d.m];omega);have bs:(!decide ((dW P (eG W) P.ck r).bA=p.bA))=false:=by rw[d.s];simp[dW]
 have aV:(!decide ((dW P (eG W) P.ck r).Length=p.Length))=false:=by rw[d.l];simp[dW]
 unfold A9;simp only[jn,FK F,sL,d.v,aR,ef,dk,bH,bo,bs,aV,ow,bb]
 refine DE (G:=λbw=>∃i k,bw=some (jk.mk i 0 k,0)/\wG W P r p i k) (λq:Int×Int×List iU=>gv q.1/\gv q.2.1/\(cS q.2.1++q.2.2.flatMap me++cS q.1).Perm (cS p.Bits)/\(∀c∈cS q.2.1,iH P (gd p.Set p.Length c)=r)/\∀y∈q.2.2,zk W P r p y) (λq=>(cS q.1).length)
  ⟨d.b,vK,by simp[ya],by simp[ya],by simp⟩ (by have:=sV p.Bits;show(cS p.Bits).length<_;omega) ?_
 rintro⟨left,i,k⟩ a4 ⟨ak,M,t,C,H⟩ aL;simp only at ak M t C H ⊢;by_cases Z:left=0
 .subst Z;simp only[ef,dk,bH];exact⟨i,k,rfl,M,by simpa [ya]using t,C,H⟩
 obtain⟨c,aK,t1,t2,aU⟩:=My ak Z;have aw:c∈cS left:=lS.2 t1;have Q:c∈cS p.Bits:=t.mem_iff.1 (by simp[aw]);have X:(c:Int)<p.Length:=ay c (lS.1 Q);obtain⟨o,R⟩:∃o,o=cT.mk (iH P (gd p.Set p.Length c)) (gd p.Set p.Length c):=⟨_,rfl⟩;have I:o∈P.ck:=R▸G4 (d.e c Q);have B:o.aP=gd p.Set p.Length c:=by rw[R]
 have az:o.ai=iH P (gd p.Set p.Length c):=by rw[R]
 have am:=h.i _ I;have aX:q5 p.Set (c:Int) p.Length=some (o.aP,true):=by
  rw[B];exact Pg aq ⟨by omega,X⟩ A (by rw[B]at am;exact am.2)
 have aI:eR.mk o.aP (eG W o r)∈(dW P (eG W) P.ck r).Rows:=dg.2 ⟨o,I,rfl⟩;have an:=Zi F ao aI;obtain⟨l,Y⟩:∃l,l=mS (eG W o r) u:=⟨_,rfl⟩;have U:=h.way ae ag I E u;simp only[<-Y]at an U;have ar:=h.own U;have aC:l∈ids W:=(vo h.v E).2.2.1 l U;have bx:=Hs h.v aC;have a9:IntKind.wrap .u64 ((1:Int)*2 ^ min c 64)=gK c:=z1 (n:=(c:Int)) (by omega) (by omega);simp only[ff Z,js,cm,aU,aR,fU (show(0:Int)<=(c:Int)by omega),jT,aX,an,ff (show ¬l=0 by omega),bH,show((dW P (eG W) P.ck r).ai:Int)=r from rfl,rW,a9];by_cases w:l=r
 .rw[fU w,cm];have j:=LM aK t1 t2;have aH:=t.nodup_iff.2 (CH _);rw[jt,uf]at aH;have bc:c∉cS i:=λaa=>aH.2.2 c aa c (by simp[aw]) rfl;have aD:=Zk (b:=i) aK bc;refine aL _ ⟨yR,Ir,?_,λbv v=>?_,H⟩ ?_
  .refine List.Perm.trans ?_ t;show(cS (bT .or .u64 i (gK c))++k.flatMap me++cS (bT .andNot .u64 left (gK c))).Perm _;rw[j];refine((aD.append_right _).append_right _).trans ?_;simp only[jt];refine zR _ ?_;rw[List.singleton_append];exact List.perm_middle.symm
  .rcases dG.1 (aD.mem_iff.1 v)with v|v
   .exact C bv v
   .rw[gL]at v;subst v;rw[<-az];exact(ar.1 w).symm
  .show(cS (bT .andNot .u64 left (gK c))).length<(cS left).length;rw[j];simp
 .obtain⟨ba,bG⟩:=ar.2 w;have bi:fM (dW P (eG W) P.ck r).Length=true:=by grind
  obtain⟨ab,aW,aE⟩:=ZW F bi ao aq l;obtain⟨f,V⟩:∃f,f=bT .and .u64 left ab:=⟨_,rfl⟩;have S:(dW P (eG W) P.ck r).Length=p.Length:=d.l.symm
  have be:dy ab c=true:=(aE c).2 ⟨_,aI,by omega,Y.symm,by
   rw[S];exact((CI A X).1 B).1,by
   rw[S];exact((CI A X).1 B).2⟩
  have x:∀a,dy f a=true->dy left a=true/\a∈cS p.Bits/\l∈hK W (iH P (gd p.Set p.Length a)) r/\lV W (iH P (gd p.Set p.Length a)) l<lV W (iH P (gd p.Set p.Length a)) r:=λa e=>by
   rw[V,uS,b9]at e;have O:a∈cS p.Bits:=t.mem_iff.1 (by simp[lS.2 e.1]);refine⟨e.1,O,?_⟩;obtain⟨bJ,aT,_,a2,ax,aG⟩:=(aE a).1 e.2;obtain⟨D,aJ,rfl⟩:=dg.1 aT;rw[S]at ax aG;have aY:D.aP=gd p.Set p.Length a:=(CI A (ay a (lS.1 O))).2 ⟨ax,aG⟩;have bj:=G2 h.u (G4 (d.e a O)) aJ aY;have aj:=h.way ae ag aJ E u;rw[show mS (eG W D r) u=l from a2]at aj;have:=(h.own aj).2 w;rw[bj]at this;exact this
  have N:∀a,dy (bT .and .u64 left f) a=dy f a:=λa=>by
   rw[uS];cases aa:dy f a with
   |false=>simp
   |true=>simp[(x a aa).1]
  have bh:dy f c=true:=by rw[V,uS,t1,be];rfl
  have J:bT .and .u64 left f≠0:=λD=>by
   have:=N c;rw[D,bh,nZ]at this;cases this
  have bk:=d.t c Q;rw[<-az]at bk;have jI:lF (xA p p.e3 left)=true:=Oo d.v a5 λa e=>lS.1 (t.mem_iff.1 (by simp[lS.2 e]));have Al:=Ye (p:=xA p p.e3 left) jI (m:=f) (by show p.e3≠0;omega) J;have aA:=W1 left f;have bt:k.length<1000000:=by
   have z:=yb (g:=me) λy j=>(H y j).pos;have K:=t.length_eq;have bz:=sV p.Bits;simp only[dF]at K;omega
  have L:∀a,a∈cS (bT .and .u64 left f)->dy f a=true:=λa e=>by
   have:=lS.1 e
   rwa [N]at this
  rw[ff w,bH,aW,aR,<-V];show ∃i k,(af (xJ (xA p p.e3 left) f) _:Option (jk×Int))=_/\_;rw[Al,aR];simp only[cm];rw[jU bt,aR];refine aL _ ⟨yR,M,?_,C,λy j=>?_⟩ ?_
  .refine List.Perm.trans ?_ t;show(cS i++(k++[_]).flatMap me++cS (bT .andNot .u64 left f)).Perm _;rw[ox,jt,jt,jt];refine zR _ (zR _ ?_);rw[nt,List.flatMap_nil,l5];exact aA
  .rcases dG.1 j with j|j
   .exact H y j
   .rw[gL]at j;subst j;refine⟨rfl,aC,⟨_,ba⟩,⟨Oo jI ⟨?_,?_⟩ (λa e=>?_),d.m,d.s,d.l,zy,λa e=>?_,λa e=>?_⟩,rfl,J,λa e=>?_⟩
    .show 0<=p.e3-1;omega
    .show p.e3-1<=63;omega
    .have:=N a;exact(x a (by rw[<-this];exact e)).1
    .exact d.e a (x a (L a e)).2.1
    .have z:=(x a (L a e)).2;have K:=d.t a z.1;show((lV W (iH P (gd p.Set p.Length a)) l:Nat):Int)<=p.e3-1;omega
    .exact(x a (L a e)).2.2.2
  .show(cS (bT .andNot .u64 left f)).length<(cS left).length;have z:=aA.length_eq;have K:=tg zy J;simp only[dF]at z;omega
end
end
section
open Go
def FY{α:Type}{f g:α->Nat}:∀{l:List α},(∀k∈l,f k+1<=g k)->(l.map f).sum+l.length<=(l.map g).sum
 |[],_=>eb _
 |a::l,h=>by
  have d:=h a (by simp);have c:=FY (l:=l) λk b=>h k (by simp[b]);simp only[dr,tI,fW];omega
def NK{α β:Type}{f:β->Nat}{g:α->List β}:∀{l:List α},((l.flatMap g).map f).sum=(l.map λc=>((g c).map f).sum).sum
 |[]=>rfl
 |a::l=>by
  rw[nt,km,List.sum_append,NK (l:=l)];simp
def ZY{α:Type}{f:α->Nat}{l:List α}:(l.map λk=>f k+1).sum=(l.map f).sum+l.length:=by
 induction l with
 |nil=>rfl
 |cons a l b=>simp only[dr,tI,fW,b];omega
def NP{α:Type}{f:α->Nat}{c:Nat}:∀{l:List α},(∀k∈l,f k<=c)->(l.map f).sum<=c*l.length
 |[],_=>eb _
 |a::l,h=>by
  have e:=h a (by simp);have d:=NP (c:=c) (l:=l) λk b=>h k (by simp[b]);simp only[dr,tI,fW,Nat.mul_add];omega
section
variable {T:aS}{fl s:Int}{W:aS}{P:en}
theorem Zl(b:cE T)(i:∀n∈ids T,hW T n=some true){r n:Int}(j:n∈hK T n r)(g:r≠n):Br T r n=some [n]:=by
 obtain⟨d,m,f⟩:=LJ b n;unfold Br;simp only[jn,qb,ho.2 b,aR,ef,dk,bH,ff g,m];obtain⟨c,o⟩:∃c,fuel=c+1:=⟨1099511627775,rfl⟩;have q:xq (c+1) r d n T.bf T.Links=some [n]:=by
  rw[xq,f];refine lX (G:=λs=>s=some [n]) (λp (_:Unit)=>n∉p) ?_ () (by simp) (λ_ l=>absurd j l);intro p a v w a4 h t u;show(bif decide (a=n)then _ else _)=_;by_cases e:a=n
  .grind
  .have k:a∈ids T:=yQ b (show a∈hK T n r by rw[h];simp);rw[ff e,bH];show af (hW T a) _=_;rw[i a k,aR,cm]
   grind
 rw[o,q];rfl
variable {p:c4}
theorem ZZ(h:hC T fl s W P)(a:cE T)(e:fl∈ids T)(g:∀n∈ids T,hW T n=some true){r:Int}(j:r∈ids W){c:iU}(d:zk W P r p c):BH T r c=some (c,true):=by
 obtain⟨o,b⟩:=d.n
 have f:r≠c.bS:=λi=>by
  have:=GZ h.v b;rw[i]at this;omega
 unfold BH;rw[Zl a g (h.hop a e j b) f,aR];show some (iU.mk c.bS (i6.mk [] c.Frame.cg),true)=_;obtain⟨m,k,l⟩:=c;have:=d.f
 grind
def Zm(a:lF p=true):AS (i6.mk [] p)=some true:=by
 unfold AS;simp only[Hq (l:=[]) (f:=Et) (by simp),show EV []=some false from rfl,sL,a,aR];rfl
theorem Z0(h:hC T fl s W P)(l:0<=s/\s<=7)(a:cE T)(c:fl∈ids T)(i:∀n∈ids T,hW T n=some true){r:Int}(e:r∈ids W)(k:ve W P r p):
  ∃b fP,Bz T (W.bf.map λx=>dW P (eG W) P.ck x.aP) r (i6.mk [] p)=some (jk.mk b 0 fP,0)/\wG W P r p b fP:=by
 obtain⟨b,fP,q,d⟩:=W2 h l a c e k;refine⟨b,fP,?_,d⟩;have v:r∈ids T:=((h.mem a c).1 e).ids a c;have B:fP.length<=64:=by
  have z:=yb (g:=me) λj i=>(d.c j i).pos;have t:=d.q.length_eq;have A:=sV p.Bits
  grind
 unfold Bz;simp only[jn,qb,ho.2 a,h.all l,Zm k.v,aR,ef,dk,bH,h.find e,vA T r (by have:=a.jP;omega),mB.1 v,up,hP,Int.ofNat_zero,Int.cast_ofNat_Int,cm,show decide ((0:Int)<((0:Nat):Int))=false from rfl,show decide (((0:Nat):Int)=0)=true from rfl,q];refine lX (G:=λy=>y=some (jk.mk b 0 fP,0)) (λo (f:List iU)=>f=o) ?_ _ rfl (λf u=>by rw[u]);rintro o j t f a4 m rfl w;rw[ZZ h a c i e (d.c j (by rw[m];simp)),aR];simp only[cm];rw[jU (by have:=fq List.length m;simp at this;omega),aR];exact w _ rfl
noncomputable def jy(W:aS)(P:en)(s n r:Int)(l:cR):Nat:=(l.map λa=>lV W (iH P (gd s n a)) r+1).sum
variable {fP:List iU}
def wG.less{r:Int}{fG:Int}(h:wG W P r p fG fP):(fP.map λc=>jy W P p.Set p.Length c.bS (me c)).sum+fP.length+(cS fG).length<=jy W P p.Set p.Length r (cS p.Bits):=by
 have e:jy W P p.Set p.Length r (cS p.Bits)=jy W P p.Set p.Length r (cS fG)+(fP.map λc=>jy W P p.Set p.Length r (me c)).sum:=by
  unfold jy;rw[<-(h.q.map _).sum_nat,km,List.sum_append,NK]
 have Y:(cS fG).length<=jy W P p.Set p.Length r (cS fG):=by
  unfold jy;rw[ZY];omega
 have X:(fP.map λc=>jy W P p.Set p.Length c.bS (me c)).sum+fP.length<=(fP.map λc=>jy W P p.Set p.Length r (me c)).sum:=by
  refine FY λc O=>?_;have H:=h.c c O;have S:=H.pos
  have:=FY (l:=me c) (f:=λk=>lV W (iH P (gd p.Set p.Length k)) c.bS+1) (g:=λk=>lV W (iH P (gd p.Set p.Length k)) r+1) λk Q=>by
   have:=H.k k Q;omega
  unfold jy;omega
 omega
def Zn{r:Int}{a:Int}(j:lF p=true)(h:wG W P r p a fP):∃D,Be (cH.mk 0 0 0 []) r (jk.mk a 0 fP) p=some D/\D.map (λd=>(d.ai,d.cg.Bits))=(cS a).map λk=>(iH P (gd p.Set p.Length k),gK k):=by
 unfold Be;simp only[NO h.b,aR];have u:=sV a
 have o:(cS a).map (λk=>(iH P (gd p.Set p.Length k),gK k))=((cS a).map Int.ofNat).map λk=>(r,gK k.toNat):=by
  rw[nv];refine List.map_congr_left λk e=>?_;rw[h.o k e];rfl
 rw[o];refine lX (G:=λs=>∃D:List m1,s=some D/\D.map (λd=>(d.ai,d.cg.Bits))=((cS a).map Int.ofNat).map λk=>(r,gK k.toNat)) (λi (D:List m1)=>D.map (λd=>(d.ai,d.cg.Bits))=i.map λk=>(r,gK k.toNat)) ?_ [] rfl (λD c=>⟨D,rfl,c⟩);intro i t f D a4 g c q;have m:t∈(cS a).map Int.ofNat:=by rw[g];simp
 obtain⟨k,e,rfl⟩:=dg.1 m;have v:=G3 e;have n:k∈cS p.Bits:=h.q.mem_iff.1 (by simp[e])
 rw[ZX j (b:=Int.ofNat k) (by simp) (by simp;omega) (by simpa using lS.1 n),aR,jU (by
  have l:=fq List.length c;have f:=fq List.length g;simp at l f;omega),aR]
 exact q _ (by rw[km,km,c];rfl)
def Zo{α:Type}(x:α)(l:List α):hB (x::l) 1 ((x::l).length:Int)=some l:=by
 unfold hB;rw[bx (by simp;omega)];simp
def I6(c:iU):k7:=k7.mk c.bS c.Frame
def pK(w:k7):cR:=cS w.gO.cg.Bits
structure Qc(W:aS)(P:en)(p:c4)(q:List k7)(D:List m1)(C:List rj):Prop where
 w:∀w∈q,w.mA∈ids W/\w.gO.jS=[]/\ve W P w.mA w.gO.cg/\w.gO.cg.Set=p.Set/\w.gO.cg.Bits≠0
 d:∃ks:cR,D.map (λd=>(d.ai,d.cg.Bits))=ks.map (λk=>(iH P (gd p.Set p.Length k),gK k))/\(ks++q.flatMap pK).Perm (cS p.Bits)
 c:C.length+(q.map λw=>jy W P p.Set p.Length w.mA (pK w)).sum<=2000
def s9(P:en)(p:c4)(t:kU):Prop:=t.qf=[]/\∃c:cR,t.iI.map (λa=>(a.ai,a.cg.Bits))=c.map (λb=>(iH P (gd p.Set p.Length b),gK b))/\c.Perm (cS p.Bits)
theorem QN(h:hC T fl s W P)(F:0<=s/\s<=7)(k:cE T)(z:fl∈ids T)(q:∀n∈ids T,hW T n=some true){r:Int}(K:r∈ids W)(m:ve W P r p)(aG:p.Bits≠0):
  ∃t,BN T (W.bf.map λx=>dW P (eG W) P.ck x.aP) p r=some (t,0)/\s9 P p t:=by
 have ae:r∈ids T:=((h.mem k z).1 K).ids k z
 have V:Bp T (W.bf.map λx=>dW P (eG W) P.ck x.aP) p r=some 0:=by
  unfold Bp;have an:decide (p.Mode=2)=false:=ff (by rw[m.m];omega);simp only[jn,h.find K,aR,dk,bH,vA T r (by have:=k.jP;omega),ho.2 k,mB.1 ae,ef,up,an,m.s,m.l,show(dW P (eG W) P.ck r).bA=P.bA from rfl,show(dW P (eG W) P.ck r).Length=P.Length from rfl,ow]
 unfold BN;simp only[jn,qb,ho.2 k,h.all F,sL,m.v,V,aR,ef,dk,bH]
 suffices N:∃t,BG p r (λR Y=>xN R Y T (W.bf.map λx=>dW P (eG W) P.ck x.aP))=some t/\s9 P p t by
  obtain⟨t,b,e⟩:=N;exact⟨t,by rw[b];rfl,e⟩
 have aC:jy W P p.Set p.Length r (cS p.Bits)<=25*(cS p.Bits).length:=NP λaq _=>by
  have b:=Pc (t:=W) (iH P (gd p.Set p.Length aq)) r;have e:=sZ h.v;omega
 have aE:=sV p.Bits;unfold BG;refine DE (G:=λE=>∃t,E=some t/\s9 P p t) (λd:List k7×List m1×List rj=>Qc W P p d.1 d.2.1 d.2.2) (λd=>(d.1.map λa=>jy W P p.Set p.Length a.mA (pK a)).sum) ⟨?_,⟨[],rfl,?_⟩,?_⟩ ?_ ?_
 .grind
 .show(([]:cR)++[k7.mk r (i6.mk [] p)].flatMap pK).Perm _;simp[pK]
 .show 0+([jy W P p.Set p.Length r (cS p.Bits)]:cR).sum<=2000;simp;omega
 .show([jy W P p.Set p.Length r (cS p.Bits)]:cR).sum<_;simp;omega
 .rintro⟨c,D,C⟩ a4 j ao;simp only at j ⊢;obtain⟨L,B,u⟩:=j.d;cases c with
  |nil=>
   exact⟨_,rfl,rfl,L,B,by simpa using u⟩
  |cons a c=>
   obtain⟨Z,aD,v,I,M⟩:=j.w a (by simp);have ak:a.gO=i6.mk [] a.gO.cg:=by
    obtain⟨x,aJ,aK⟩:=a
    grind
   obtain⟨w,fP,ar,o⟩:=Z0 h F k z q Z v;obtain⟨H,X,A⟩:=Zn v.v o;have ab:a.gO.cg.Length=p.Length:=by rw[v.l,m.l]
   have aj:=o.less;rw[I,ab]at A aj;have aA:D.length<=64:=by
    have b:=fq List.length B;have e:=u.length_eq;simp only[iO,dF]at b e;omega
   have az:H.length<=64:=by
    have b:=fq List.length A;have:=sV w;simp only[iO]at b;omega
   have Q:=j.c;simp only[dr,tI]at Q;have ay:c.length<=64:=by
    have b:=yb (g:=pK) (l:=c) λf q=>tg (j.w f (by simp[q])).2.2.1.b (j.w f (by simp[q])).2.2.2.2;have e:=u.length_eq;simp only[dF,nt]at e;omega
   have S:xN a.mA a.gO T (W.bf.map λx=>dW P (eG W) P.ck x.aP)=some (jk.mk w 0 fP,true):=by
    unfold xN;rw[ak,ar];rfl
   have ax:jy W P p.Set p.Length a.mA (cS a.gO.cg.Bits)=jy W P p.Set p.Length a.mA (pK a):=rfl;simp only[jn,show decide ((0:Int)<((a::c).length:Int))=true from fU (by simp),cm,show b6 (a::c) 0=some a from rfl,Zo,aR,S,dk,bH,X,g9 (l:=D) (r:=H) (by omega),ef];refine lX (G:=λE=>∃t,E=some t/\s9 P p t) (λy (d:List k7×List rj)=>d.1=c++y.map I6/\d.2.length=C.length+y.length) ?_ _ ⟨by simp,by simp⟩ ?_
   .rintro y f aI ⟨e,ag⟩ aB O ⟨f1,f2⟩ U;simp only at f1 f2 ⊢;have bt:=fq List.length O;simp at bt;rw[jU (by omega),aR,jU (by rw[f1];simp;omega),aR];refine U _ ⟨?_,?_⟩
    .simp only;rw[f1,km,jt];rfl
    .simp only[dF,fW,hP];omega
   .rintro⟨e,ag⟩ ⟨f1,f2⟩;simp only at f1 f2 ⊢
    have J:((c++fP.map I6).map λa=>jy W P p.Set p.Length a.mA (pK a)).sum=(c.map λa=>jy W P p.Set p.Length a.mA (pK a)).sum+(fP.map λf=>jy W P p.Set p.Length f.bS (me f)).sum:=by
     rw[km,List.sum_append,nv];rfl
    refine ao _ ⟨?_,⟨L++cS w,?_,?_⟩,?_⟩ ?_
    .intro aw i;simp only at i;rw[f1]at i;rcases dG.1 i with i|i
     .exact j.w aw (by simp[i])
     .obtain⟨f,aa,rfl⟩:=dg.1 i;have:=o.c f aa;exact⟨this.i,this.f,this.w,by rw[<-I];exact this.s,this.z⟩
    .simp only;rw[km,km,B,A]
    .simp only;rw[f1];refine List.Perm.trans ?_ u;rw[ox,nt,jt];refine zR _ ?_;have am:(fP.map I6).flatMap pK=fP.flatMap me:=by rw[List.flatMap_map];rfl
     rw[am];refine List.Perm.trans ?_ (o.q.append_right _);rw[jt];exact zR _ List.perm_append_comm
    .simp only;rw[f1,f2,J];omega
    .simp only[dr,tI];rw[f1,J];have aH:=tg v.b M;have b:=o.q.length_eq;simp only[dF]at b;have:0<fP.length+(cS w).length:=by
      cases fP with
      |nil=>simp at b ⊢;omega
      |cons=>simp;omega
     omega
end
end
section
open Go
def Oq{k:Int}(h:0<=k/\k<64):x4 k=some (gK k.toNat):=by
 unfold x4;have a:IntKind.wrap .u64 k=k:=E5 h.1 (by omega);rw[ff (show ¬k<0 by omega),ff (show ¬63<k by omega),a,fU h.1,z1 h.1 h.2];rfl
def Yf{n:Int}(h:fM n=true):Ok (BK n) λ_=>True:=by
 unfold BK;have d:0<=n/\n<=64:=by rcases oS h with rfl|rfl|rfl|rfl<;>omega
 rw[T0,aR,h,dk,bH];refine aFt (by simp;omega) (aFA (λ_ _=>True) 0 n ?_ ?_ _ _ _ rfl (by omega) (by omega) trivial)
 .intro f e a4 a c _ b;rw[Oq ⟨a,by omega⟩,aR];exact b _ trivial
 .exact λ_ _ _ _ _=>Ok.s trivial
def Zp{t:cu}{n:Int}(h:fC t)(e:fM n=true):Ok (Bm t n) λp=>fC p.2:=by
 have i:0<=n/\n<=64/\1<=n:=by rcases oS e with rfl|rfl|rfl|rfl<;>omega
 unfold Bm;refine Ok.af (HA h) λm j=>Ok.af (HA j) λo f=>aFj (λc:Int×bX×Int=>fC (cu.mk c.2.1 c.2.2)) (λc g=>Ok.af (Yf e) λr _=>Ok.s g) λk b=>Ok.af (jm f (by omega)) λl a=>Ok.cs (λ_=>b _ a.2) λ_=>Ok.cs (λ_=>?_) λ_=>Ok.cs (λ_=>b _ a.2) λ_=>b _ a.2;refine Ok.af (jm a.2 (by omega)) λq d=>?_;have:=d.1.2.1 i.2.2;have:=d.1.1;rw[Oq ⟨by omega,by omega⟩,aR];exact b _ d.2
theorem Z1{t:cu}(h:fC t):Ok (Bn t 6) λp=>p.1.size<=6/\fC p.2:=by
 unfold Bn;refine Ok.af (u6 h) λp d=>?_;have f:=d.1 (by omega) (by omega) (by omega);refine aFv (λa:bX×Int×bX×Int=>0<=a.2.1/\(a.1.length:Int)+a.2.1<=6/\fC (cu.mk a.2.2.1 a.2.2.2)) (λa=>a.2.1.toNat) ⟨f.1,by simp;omega,d.2⟩ (by show p.1.toNat<_;omega) ?_;rintro⟨c,l,n,m⟩ a4 ⟨i,j,b⟩ k;simp only at i j b ⊢;refine Ok.cs (λe=>?_) λ_=>Ok.s ⟨?_,b⟩
 .have e:0<l:=fF e;refine Ok.af (jm b (by omega)) λo g=>?_;rw[jU (by omega),aR,kV (by omega) (by omega)];refine k _ ⟨?_,?_,g.2⟩ ?_
  all_goals grind
 .show(mE c).size<=6;have:(mE c).size=c.length:=by simp[mE,ByteArray.size]
  omega
structure It(q:c4):Prop where
 e:0<=q.gh/\q.gh<=1023
 i:0<=q.gH/\q.gH<=256
 p:0<=q.gJ/\q.gJ<=7
 t:(q.gN.size:Int)<=64
def Yg{t:cu}(h:fC t):Ok (A2 t) λp=>It p.1/\fC p.2:=by
 unfold A2;refine Ok.af (L4 h) λv e=>Ok.af (u6 e.2) λw i=>Ok.af (u6 i.2) λu j=>Ok.af (vz j.2 (by decide) (by decide)) λx k=>Ok.af (vz k.2 (by decide) (by decide)) λy l=>Ok.af (jm l.2 (by omega)) λo a=>Ok.af (vz a.2 (by decide) (by decide)) λd c=>Ok.af (jm c.2 (by omega)) λg b=>Ok.af (Zp b.2 e.1) λs m=>Ok.af (Z1 m) λf n=>?_;have z:=a.1.2.1 (by omega);have r:=b.1.2.1 (by omega);have q:=c.1;simp only[c5,hr,hG]at q;exact Ok.s ⟨⟨⟨a.1.1,by show o.1<=1023;omega⟩,⟨by show 0<=d.1;omega,by show d.1<=256;omega⟩,⟨b.1.1,by show g.1<=7;omega⟩,by show(f.1.size:Int)<=64;omega⟩,n.2⟩
def Zq{l:zw}{f:cT->dw}(g:cT->Bool)(j:∀x∈l,f x=some (g x)){y:cT}(i:y∈l)(h:g y=true):qK l f=some true:=by
 have p:∃a:Int,0<=a/\wS l f=some a:=by
  unfold wS;refine lX (G:=λq=>∃a:Int,0<=a/\q=some a) (λc (_:Unit)=>y∉c) ?_ () (by simp) (λ_ b=>absurd i b);intro c x r s a4 k e o;show ∃a:Int,0<=a/\(af (f x) _:ir)=some a;rw[j x (by rw[k];simp),aR];cases d:g x with
  |true=>exact⟨c.length,by omega,rfl⟩
  |false=>
   refine o () ?_;simp only[dG,gL,not_or];exact⟨e,λm=>by rw[<-m,h]at d;cases d⟩
 obtain⟨a,n,b⟩:=p;unfold qK;rw[b,aR,fU n]
def Zr{l:zw}{y:cT}(g:y∈l):Ag l y=some true:=by
 have k:∃a:Int,0<=a/\An l y=some a:=by
  unfold An;refine lX (G:=λm=>∃a:Int,0<=a/\m=some a) (λc (_:Unit)=>y∉c) ?_ () (by simp) (λ_ b=>absurd g b);intro c e o p a4 n f j;show ∃a:Int,0<=a/\(bif vv y e then _ else _:ir)=some a;cases d:vv y e with
  |true=>exact⟨c.length,by omega,rfl⟩
  |false=>
   refine j () ?_;simp only[dG,gL,not_or];exact⟨f,λh=>by rw[<-h]at d;simp[vv]at d⟩
 obtain⟨a,i,b⟩:=k;unfold Ag;rw[b,aR,fU i]
def m3(n:Int)(s:g8):bX:=(cS s.Bits).map λa=>gd s.Set n a
structure qs(n:Int)(s:g8):Prop where
 b:gv s.Bits
 r:0<=s.Set/\s.Set<=31
 k:∀k∈cS s.Bits,(k:Int)<n
 z:s.Bits≠0
theorem Z2{P:en}(Z:nI P=some true)(ar:P.ck≠[]->fM P.Length=true)(hi:∀x∈P.ck,1<=x.aP/\x.aP<=256){L:bX}(O:L.Pairwise (·<·))(Q:∀i∈L,∃x∈P.ck,x.aP=i)(aB:L.length<=24):
  ∃S,xG P L=some (S,0)/\S.flatMap (m3 P.Length)=L/\∀s∈S,qs P.Length s:=by
 have aj:su L (λE=>AZ E P)=some false:=Hq λi an=>by
  obtain⟨x,ab,v⟩:=Q i an;unfold AZ Fe;rw[Zq (f:=λE=>EX E i) (λx=>decide (x.aP=i)) (λ_ _=>rfl) ab (by simp[v])];rfl
 unfold xG;rw[Z,aR,dk,bH];refine lX (G:=λN=>∃S:B8,N=some (S,0)/\S.flatMap (m3 P.Length)=L/\∀s∈S,qs P.Length s) (λ_ (_:Unit)=>True) ?_ () trivial λ_ _=>?_
 .intro q x aA aG a4 r _ M;simp only[jn];by_cases ax:0<q.length
  .obtain⟨a,e,rfl,p⟩:=CV r.symm (by omega) ax;have aC:a<x:=by grind
   simp only[show decide ((0:Int)<((e++[a]).length:Int))=true from fU (by simp),p,aR,cm,show decide (x<=a)=false from ff (by omega),bH];exact M () trivial
  .simp_all
 simp only[aj,aR,bH];refine lX (G:=λN=>∃S:B8,N=some (S,0)/\S.flatMap (m3 P.Length)=L/\∀s∈S,qs P.Length s) (λq (S:B8)=>S.flatMap (m3 P.Length)=q/\∀s∈S,qs P.Length s) ?_ [] ⟨rfl,by simp⟩ (λS am=>⟨S,rfl,am⟩);rintro q x aA S a4 r ⟨A,k⟩ M;obtain⟨u,v,ao⟩:=Q x (by rw[r];simp);have y:=ar (λe=>by rw[e]at v;cases v);have R:=hi u v;rw[ao]at R;obtain⟨st,F⟩:∃st,st=(x-1) / P.Length:=⟨_,rfl⟩;obtain⟨d,H⟩:∃d:Nat,(d:Int)=(x-1)%P.Length:=⟨((x-1)%P.Length).toNat,by
  rcases oS y with e|e|e|e<;>rw[e]<;>omega⟩
 have D:d<64/\(d:Int)<P.Length/\0<=st/\st<=31:=by
  rcases oS y with e|e|e|e<;>rw[e]at F H ⊢<;>omega
 have V:x=gd st P.Length d:=(CI y D.2.1).2 ⟨F.symm,H.symm⟩;have J:S.length<=24:=by
  have aa:=yb (g:=m3 P.Length) (l:=S) λs B=>by unfold m3;rw[iO];exact tg (k s B).b (k s B).z
  have ae:=fq List.length r;rw[A]at aa;simp at ae;omega
 have aq:IntKind.wrap .u64 ((1:Int)*2 ^ min d 64)=gK d:=z1 (n:=(d:Int)) (by omega) (by omega)
 have aw:∀a∈q,a<x:=λa m=>by
  rw[r,mG]at O;exact O.2.2 a m x (by simp)
 simp only[jn,MC R y,aR,<-F,<-H]
 have Y:∀(c:B8) (a:g8),c.length<=24->a.Set=st->gv a.Bits->(∀s∈c,qs P.Length s)->(∀j∈cS a.Bits,(j:Int)<P.Length/\j<d)->(c++[a]).flatMap (m3 P.Length)=q->
   ∃S,(af (b6 (c++[a]) (a2 (((c++[a]).length:Int)-1))) λ(t:g8)=>eD (decide (0<=(d:Int)))<|af (gB (c++[a]) (a2 (((c++[a]).length:Int)-(1:Int))) (g8.mk t.Set (bT .or .u64 t.Bits (IntKind.wrap .u64 ((1:Int)*2 ^ min (d:Int).toNat 64))))) λ(C:B8)=>a4 C)=some (S,0)/\S.flatMap (m3 P.Length)=L/\∀s∈S,qs P.Length s:=λc a aE U aD ak W K=>by
  have p:a2 (((c++[a]).length:Int)-1)=(c.length:Int):=by
   rw[kV (by simp only[dF,fW,hP];omega) (by simp only[dF,fW,hP];omega)];simp
  have ay:gB (c++[a]) (c.length:Int) (g8.mk a.Set (bT .or .u64 a.Bits (gK d)))=some (c++[g8.mk a.Set (bT .or .u64 a.Bits (gK d))]):=by
   unfold gB;rw[bx ⟨by omega,by simp only[dF,fW,hP];omega⟩];simp
  have w:=Yd (b:=a.Bits) D.1 λaz ag=>(W az ag).2;rw[p,iy c a [],aR,fU (by omega),jT rfl,rW,aq,ay,aR];refine M _ ⟨?_,λs o=>?_⟩
  .rw[ox]at K ⊢;simp only[nt,List.flatMap_nil,l5]at K ⊢;rw[<-K,jt];congr 1;unfold m3;simp only;rw[w,km,V,U];rfl
  .rcases dG.1 o with o|o
   .exact ak s o
   .rw[gL]at o;subst o;refine⟨Ir,?_,λj h=>?_,λu=>?_⟩
    .show 0<=a.Set/\a.Set<=31;rw[U];omega
    .have h:j∈cS (bT .or .u64 a.Bits (gK d)):=h;rw[w]at h;rcases dG.1 h with h|h
     .exact(W j h).1
     .rw[gL]at h;rw[h];exact D.2.1
    .have u:bT .or .u64 a.Bits (gK d)=0:=u;rw[u,ya]at w;simp at w
 have T:(∀s∈S,qs P.Length s)->∃I,(af (dm S ([g8.mk st 0]:B8)) λ(z:B8)=>af (b6 z (a2 ((z.length:Int)-1))) λ(t:g8)=>eD (decide (0<=(d:Int)))<|af (gB z (a2 ((z.length:Int)-(1:Int))) (g8.mk t.Set (bT .or .u64 t.Bits (IntKind.wrap .u64 ((1:Int)*2 ^ min (d:Int).toNat 64))))) λ(C:B8)=>a4 C)=some (I,0)/\I.flatMap (m3 P.Length)=L/\∀s∈I,qs P.Length s:=λ_=>by
  rw[jU (by omega),aR];exact Y S (g8.mk st 0) J rfl vK k (by simp[ya]) (by rw[ox,A];simp[m3,ya])
 rcases List.eq_nil_or_concat S with rfl|⟨c,a,rfl⟩
 .simp only[hP,Int.ofNat_zero,Int.cast_ofNat_Int,ef,cm];exact T k
 .rw[List.concat_eq_append]at *;have p:a2 (((c++[a]).length:Int)-1)=(c.length:Int):=by
   simp only[dF,fW,hP]at J;rw[kV (by simp only[dF,fW,hP];omega) (by simp only[dF,fW,hP];omega)];simp
  rw[ff (show ¬((c++[a]).length:Int)=0 by simp;omega),bH,p,iy c a [],aR];by_cases m:a.Set=st
  .rw[fU m,dk,bH];have X:=k a (by simp)
   have:=Y c a (by simp at J;omega) m X.b (λs B=>k s (by simp[B])) (λj h=>⟨X.k j h,by
    have:=aw (gd a.Set P.Length j) (by rw[<-A];simp only[ox,nt,List.flatMap_nil,l5,dG];exact .inr (dg.2 ⟨j,h,rfl⟩));rw[V,m]at this;unfold gd at this;omega⟩) A
   rw[p,iy c a []]at this;exact this
  .rw[ff m,js,cm];exact T k
def q3(P:en)(q:c4)(s:g8):c4:=c4.mk q.Mode P.bA s.Set P.Length q.e3 q.gh q.gH q.gJ s.Bits q.gN
variable {P:en}{q:c4}
def Z3{s:g8}(a:It q)(g:q.Mode=1)(f:q.e3=63)(b:fM P.Length=true)(c:0<=P.bA/\P.bA<=7)(h:qs P.Length s):lF (q3 P q s)=true:=by
 refine vp.2 ⟨?_,c,h.r,yx.2 ⟨b,λe d=>h.k e (lS.2 d)⟩,?_,a.e,a.i,a.p,a.t⟩
 .show 1<=q.Mode/\q.Mode<=3;omega
 .show 0<=q.e3/\q.e3<=63;omega
variable {L:bX}
def W3{S:B8}(h:xG P L=some (S,0))(g:∀s∈S,lF (q3 P q s)=true)(n:S.length<=100):A0 P L q=some (S.map (q3 P q),0):=by
 unfold A0;simp only[h,aR,ef,dk,bH]
 refine lX (G:=λl=>l=some (S.map (q3 P q),0)) (λf (b:Ew×Int×Int×Int×Int)=>b.1=f.map (q3 P q)) ?_ _ rfl (λb e=>by
  obtain⟨m,o⟩:=b;simp only at e;rw[e])
 rintro f a t ⟨r,p⟩ a4 d c k;simp only at c ⊢;have i:a∈S:=by rw[d];simp
 have j:=fq List.length d;simp at j;rw[show mZ (c4.mk q.Mode P.bA a.Set P.Length q.e3 q.gh q.gH q.gJ a.Bits q.gN)=some true from by rw[sL];exact fq some (g a i),aR,dk,bH,jU (by rw[c,iO];omega),aR];exact k _ (by simp only;rw[c,km];rfl)
theorem Z4{p:c4}{t:kU}(h:s9 P p t)(o:gv p.Bits):yC t p.Bits=some true:=by
 obtain⟨w,n,i,f⟩:=h;have x:=f.nodup_iff.2 (CH _);unfold yC;refine lX (G:=λA=>A=some true) (λe (c:Int)=>gv c/\∀b,dy c b=true↔b∈n.take e.length) ?_ 0 ⟨vK,λb=>by simp[nZ]⟩ ?_
 .rintro e l D c a4 r ⟨k,d⟩ z;rw[r,km]at i;obtain⟨dJ,bz,rfl,y,m⟩:=List.map_eq_append_iff.1 i.symm;rw[dr]at m;obtain⟨a,cw,rfl,s,C⟩:=List.map_eq_cons_iff.1 m;have g:dJ.length=e.length:=by have:=fq List.length y;simpa using this
  rw[<-g,rP  rfl]at d;have j:a<64:=G3 (f.mem_iff.1 (by simp:a∈dJ++a::cw));have B:a∉dJ:=λq=>(uf.1 x).2.2 a q a (by simp) rfl;have v:l.cg.Bits=gK a:=(fq Prod.snd s).symm
  have u:bT .and .u64 c (gK a)=0:=vJ zy vK λb _=>by
   rw[uS,n0 a b j,nZ];by_cases q:b=a
   .grind
   .grind
  simp only[jn,v,Zh,NJ j,aR,u];refine z _ ⟨Ir,λb=>?_⟩;have:(dJ++a::cw).take (e++[l]).length=dJ++[a]:=by grind
  rw[this,xU,n0 a b j,kZ,d,dG,gL,eY]
 .rintro c ⟨k,d⟩;have g:n.length=t.iI.length:=by have:=fq List.length i;simpa using this.symm
  rw[<-g,List.take_length]at d;rw[w];show some (decide (c=p.Bits))=_;rw[fU (vJ k o λb _=>by rw[ns,d,f.mem_iff,lS])]
def wV(p:c4):bX:=(cS p.Bits).map λa=>gd p.Set p.Length a
def Yh{l:Ew}{f:c4->dw}(h:∀x∈l,f x=some false):Aa l f=some false:=by
 unfold Aa DS
 rw[show(bC l 0 _ _ ())=some (-1:Int)from i3 (L:=l) (λ_=>()) _ rfl (λc x d a4 a b=>by
  rw[h x (by rw[<-a];simp)];exact b) l [] rfl]
 rfl
def W4(M:nI P=some true){ps:Ew}{b:List kU}(B:b.length=ps.length)(K:∀(j:Nat) p t,ps[j]?=some p->b[j]?=some t->s9 P p t)(y:∀p∈ps,lF p=true)
  (ag:∀p∈ps,∀k∈cS p.Bits,∃x∈P.ck,x.aP=gd p.Set p.Length k) (hi:∀x∈P.ck,1<=x.aP/\x.aP<=256)  (w:L.Pairwise (·<·)) (z:ps.flatMap wV=L) (J:L.length<=24):A1 P ps b=some (L,0):=by
 unfold A1
 simp only[jn,M,aR,dk,bH,B,ef,Yh (l:=ps) (f:=AI) λp s=>by
  unfold AI;rw[sL,y p s];rfl]
 refine lX (G:=λv=>v=some (L,0)) (λa (d:bX)=>d.Perm (a.flatMap wV)) ?_ [] (by simp) ?_
 .rintro a p aq d a4 g c aj;have N:a.length<b.length:=by rw[B,g];simp
  have o:b[a.length]?=some b[a.length]:=jW N;obtain⟨t,X⟩:∃t,t=b[a.length]:=⟨_,rfl⟩;rw[<-X]at o;have E:p∈ps:=by rw[g];simp
  obtain⟨_,I,u,n⟩:=K a.length p t (by rw[g];simp) o;have U:b6 b (a.length:Int)=some t:=by
   unfold b6;rw[bx (by omega)];simpa using o
  have D:=vp.1 (y p E);obtain⟨Z,Y⟩:=yx.1 D.2.2.2.1;have ak:(a.flatMap wV).length+(cS p.Bits).length<=24:=by
   rw[<-z,g,ox,nt,dF,dF]at J;have:(wV p).length=(cS p.Bits).length:=by simp[wV]
   omega
  have W:=c.length_eq;have aa:=n.length_eq;rw[U,aR];refine lX (G:=λv=>v=some (L,0)) (λi (e:bX)=>e=d++(I.take i.length).map (λk=>gd p.Set p.Length k)) ?_ d (by simp) ?_
  .rintro i r am e an O m S;rw[O,km]at u;obtain⟨dJ,bz,rfl,ae,F⟩:=List.map_eq_append_iff.1 u.symm;rw[dr]at F;obtain⟨k,cw,rfl,A,ao⟩:=List.map_eq_cons_iff.1 F;have h:dJ.length=i.length:=by have:=fq List.length ae;simpa using this
   rw[<-h,rP rfl]at m;have q:k∈cS p.Bits:=n.mem_iff.1 (by simp);have H:k<64:=G3 q;have R:r.cg.Bits=gK k:=(fq Prod.snd A).symm;have Q:r.ai=iH P (gd p.Set p.Length k):=(fq Prod.fst A).symm;have C:=G4 (ag p E k q);have T:=hi _ C;have V:q5 p.Set (k:Int) p.Length=some (gd p.Set p.Length k,true):=Pg D.2.2.1 ⟨by omega,Y k (lS.1 q)⟩ Z T.2;have fK:e.length<1000000:=by
    have:=fq List.length m;simp at this aa;omega
   rw[R,NO (Hw H),NJ H,aR];show(af (q5 p.Set (k:Int) p.Length) _:Option (bX×Int))=_;rw[V,aR];simp only[dk,bH];rw[Q,Zr C,aR];simp only[dk,bH];rw[jU fK,aR];refine S _ ?_;have:(dJ++k::cw).take (i++[r]).length=dJ++[k]:=by
    rw[show(dJ++k::cw)=(dJ++[k])++cw by simp,rP (by simp[h])]
   rw[this,m,km,jt];rfl
  .rintro e rfl;have h:I.length=t.iI.length:=by have:=fq List.length u;simpa using this.symm
   rw[<-h,List.take_length];refine aj _ ?_;rw[ox,nt,List.flatMap_nil,l5];exact c.append (n.map _)
 .intro d c;rw[z]at c;have W:=c.length_eq;rw[fU (by omega),jT rfl];have ab:d.Nodup:=c.nodup_iff.2 (w.imp λs=>Int.ne_of_lt s);rw[yD (CG ab) w λx=>by rw[Cn,c.mem_iff]]
def V9(t:bX):Fc t=some true:=by
 unfold Fc;refine aFo (Ok.af (Rk t) λs am=>Ok.af (Wg am) λq u=>?_);obtain⟨aN,aY,t2⟩:=q;obtain⟨⟨aL,v,c,o,ab⟩,S,aa⟩:=u;simp only at ab S aa ⊢;subst ab S;have W:=kG o.h c;have U:=rL o.h c;have aV:1<=(eS c v).aM.length:=by rw[NV o.h c];exact o.n
 have aX:(eS c v).aM.length<=24:=W.v.len;rw[show decide (((eS c v).aM.length:Int)=0)=false from ff (by omega)];simp only[dk,ow,bH];refine Ok.af (jm aa (by omega)) λp m=>?_;refine Ok.af (n2 m.1.1 (m.1.2.1 (by omega))) λA aA=>?_;have O:A.ai∈ids (a0 v):=by rw[<-U];exact o2 aA.1
 obtain⟨B,P,aE,b⟩:=W0 o O (s:=1) (by omega);have J:=o.h.v.t
 have ao:∀ak∈ids (a0 v),hW (a0 v) ak=some true:=λak aH=>by
  obtain⟨e,n,rfl⟩:=dg.1 aH;rw[Ol J n,o.c e n]
 have aC:A.ai∈ids B:=(b.mem J O).2 (.refl (by simp));have aw:0<=P.bA/\P.bA<=7:=by rw[b.s];omega
 have ae:P.ck≠[]->fM P.Length=true:=λq=>by
  rcases b.b with a|a
  .exact a
  .exact absurd a.2 q
 have aT:=b.k;rw[aE,aR];refine aFg (λf (M:bX×bX×Int)=>M.1.Sublist (f.map (·.aP))/\fC (cu.mk M.2.1 M.2.2)) ?_ _ ⟨List.Sublist.refl _,m.2⟩ ?_
 .rintro f e aI ⟨L,ay,ar⟩ a4 ax ⟨d,x⟩ I;simp only at d x ⊢;have Q:=fq List.length ax;have D:=d.length_le;simp at Q D;simp only[jn];refine Ok.af (jm x (by omega)) λaZ Y=>Ok.cs (λ_=>?_) λ_=>I _ ⟨?_,Y.2⟩
  .rw[jU (by omega),aR];refine I _ ⟨?_,Y.2⟩;rw[km];exact d.append (List.Sublist.refl _)
  .rw[km];exact d.trans (List.sublist_append_left _ _)
 rintro⟨L,ay,ar⟩ ⟨d,x⟩;simp only at d x ⊢;have X:L.Pairwise (·<·):=(lq.2 b.u).sublist d;have R:∀i∈L,∃e∈P.ck,e.aP=i:=λi G=>dg.1 (d.subset G);have D:L.length<=24:=by
  have:=d.length_le;rw[iO]at this;omega
 obtain⟨k,aJ,C,j⟩:=Z2 b.p ae b.i X R D;refine Ok.af (Yg x) λh F=>?_;obtain⟨q,ag⟩:∃q,q=c4.mk (1:Int) h.1.bA h.1.Set h.1.Length (63:Int) h.1.gh h.1.gH h.1.gJ h.1.Bits h.1.gN:=⟨_,rfl⟩;have u:It q/\q.Mode=1/\q.e3=63:=by rw[ag];exact⟨⟨F.1.e,F.1.i,F.1.p,F.1.t⟩,rfl,rfl⟩
 rw[<-ag];have aW:k.length<=24:=by
  have T:=yb (g:=m3 P.Length) (l:=k) λs a=>by unfold m3;rw[iO];exact tg (j s a).b (j s a).z
  rw[C]at T;omega
 have an:∀s∈k,fM P.Length=true:=λs a=>ae λaD=>by
  obtain⟨i,G⟩:=List.exists_mem_of_length_pos (tg (j s a).b (j s a).z);obtain⟨e,n,_⟩:=R (gd s.Set P.Length i) (by rw[<-C];exact r8.2 ⟨s,a,dg.2 ⟨i,G,rfl⟩⟩);rw[aD]at n;cases n
 have jI:∀s∈k,lF (q3 P q s)=true:=λs a=>Z3 u.1 u.2.1 u.2.2 (an s a) aw (j s a);have aj:∀s∈k,∀c∈cS s.Bits,∃e∈P.ck,e.aP=gd s.Set P.Length c:=λs a c aG=>R _ (by rw[<-C];exact r8.2 ⟨s,a,dg.2 ⟨c,aG,rfl⟩⟩);rw[W3 aJ jI (by omega),aR];simp only[dk,ef,ow,bH,jn];refine aFg (λf (y:List kU)=>y.length=f.length/\∀(z:Nat) p t,f[z]?=some p->y[z]?=some t->s9 P p t) ?_ [] ⟨rfl,by simp⟩ ?_
 .rintro f e aI y a4 Z ⟨K,N⟩ I;have n:e∈k.map (q3 P q):=by rw[Z];simp
  obtain⟨s,w,rfl⟩:=dg.1 n;have Q:=fq List.length Z;simp at Q
  have aB:ve B P A.ai (q3 P q s):=⟨jI s w,u.2.1,rfl,rfl,(j s w).b,aj s w,λi G=>by
   have T:=Pc (t:=B) (iH P (gd s.Set P.Length i)) A.ai;have aU:=sZ b.v;show((lV B (iH P (gd s.Set P.Length i)) A.ai:Nat):Int)<=q.e3;omega⟩
  obtain⟨t,aq,V⟩:=QN b (by omega) J O ao aC aB (j s w).z;rw[F1 W.v.sm,aR,U,aq,aR];simp only[ef,dk,bH];rw[Z4 V (j s w).b,aR];simp only[dk,bH];rw[jU (by omega),aR];refine I _ ⟨by simp[K],λz p aK r H=>?_⟩;rcases Nat.lt_trichotomy z f.length with E|E|E
  .rw[nu E]at r;rw[nu (by omega)]at H;exact N z p aK r H
  .subst E;rw[pO (eb _),Nat.sub_self]at r;rw[pO (by omega),show f.length-y.length=0 by omega]at H;cases r;cases H;exact V
  .rw[List.getElem?_eq_none (by simp;omega)]at r;cases r
 .rintro y ⟨K,N⟩;have az:(k.map (q3 P q)).flatMap wV=L:=by rw[List.flatMap_map];exact C
  rw[W4 b.p K N (λp m=>by
   obtain⟨s,a,rfl⟩:=dg.1 m;exact jI s a) (λp m=>by
   obtain⟨s,a,rfl⟩:=dg.1 m;exact aj s a) b.i X az D,aR]
  simp only[ef,cm,Xo,aR];rw[aao];exact Ok.s rfl
end
end Go.Proofs.YtemmkpdjmgafoaaGreatDoor
