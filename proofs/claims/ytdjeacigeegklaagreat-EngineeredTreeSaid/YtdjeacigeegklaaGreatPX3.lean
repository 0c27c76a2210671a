/- Plain: the law aae is true. No condition. -/
import Derived.Test.YtdjeacigeegklaaGreatPA2
import Derived.Test.YtdjeacigeegklaaGreatDL3
namespace Go.Proofs.YtdjeacigeegklaaGreat
set_option linter.all false
open Go
theorem acm{α:Type}(f:α→aX):∀(l:List α) (s:List aX),(l.map f).Nodup→(s.Pairwise λa b=>ltH a b=true)→(∀y∈l.map f,y∉s)→((l.foldl (λs x=>je s (f x)) s).Pairwise λa b=>ltH a b=true)∧∀y,y∈l.foldl (λs x=>je s (f x)) s↔y∈s∨y∈l.map f
 |[],s,_,h,_=>⟨h,by simp⟩
 |a::l,s,hn,h,hd=>by
  rw[List.map_cons,List.nodup_cons]at hn
  have hlt:=z7 (x:=f a) h (hd (f a) (by simp))
  obtain⟨h1,h2⟩:=acm f l (je s (f a)) hn.2 hlt λy hy hm=>by
   rcases jm.1 hm with rfl|hm
   ·exact hn.1 hy
   ·exact hd y (by simp[List.mem_map.1 hy]) hm
  refine⟨h1,λy=>?_⟩
  rw[List.foldl_cons,h2,jm,List.map_cons,List.mem_cons]
  constructor
  ·rintro((h|h)|h)
   ·exact .inr (.inl h)
   ·exact .inl h
   ·exact .inr (.inr h)
  ·rintro(h|h|h)
   ·exact .inl (.inr h)
   ·exact .inl (.inl h)
   ·exact .inr h
theorem afg(x:cE):jP x x=some true:=by
 unfold jP
 simp only[decide_true,Bool.not_true,Bool.or_false,cond_false]
 exact afd (a:=x.Links) (q:=vV) (λd=>by simp[vV]) (some false) (by intros;rfl)
theorem uU(t:List Int):iO t=some true:=by
 unfold iO
 refine Ok.eq (Ok.bnd (arS t) λs hs=>Ok.bnd (ab1 hs (by omega)) λq hq=>?_)
 obtain⟨g,t1⟩:=q
 obtain⟨hg,ht⟩:=hq
 have hg:Vn g 7:=hg
 have hv:Vt g:=hg.v
 have hnr:=hv.nr
 have hgn:1≤g.aF.length:=hg.n.1
 dsimp only
 rw[adY,bn]
 refine Ok.cs (λ_=>by rw[ac1];exact⟨true,rfl,rfl⟩) λhf=>?_
 have hf:(me g 64).2=0:=by simpa using hf
 obtain⟨e,he⟩:∃e,me g 64=(e,0):=⟨(me g 64).1,by rw[←hf]⟩
 refine Ok.bnd (f_n ht (by omega)) λk hk=>Ok.bnd (lU hk.1.1 (hk.1.2.1 (by omega))) λr hr=>Ok.bnd (agS (root:=r.ID) hk.2 hv) λx hx=>?_
 obtain⟨x,t2⟩:=x
 obtain⟨hx,ht2⟩:=hx
 have hx:Tn g r.ID x:=hx
 have hid:r.ID∈ids g:=List.mem_map.2 ⟨r,hr.1,rfl⟩
 have hxl:=hx.len
 dsimp only
 rw[aaU x (by omega),bn]
 have hrl:=acU x
 refine aff (x:=x) (Lst:=lW x) (by omega) (n:=3) (by omega) ht2 λrs L A h1 h2 h3=>?_
 have hrs:=h1.length_le
 have hfl:=ad4 g 64
 rw[he]at hfl ⊢
 have hfl:e.List.length≤1000:=hfl
 obtain⟨td,hb0⟩:=arZ hv he hid hx h1 h2
 have hlen:=ag7 hv he
 have hpk:=alk (e:=e) (B:=(qZ e x rs).1) (n:=63) (pay:=⟨#[120]⟩) td.ef.v (λi hi=>by rw[hlen];exact hi64 _ i hi) (by omega) (by decide)
 dsimp only
 have epk:iB e x rs (aK.mk (0:Int) (0:Int) (0:Int) (0:Int) (63:Int) (0:Int) (0:Int) (0:Int) (0:Int) (⟨#[120]⟩:ByteArray))=some (aK.mk 2 0 0 e.Length 63 0 0 0 (qZ e x rs).1 (⟨#[120]⟩:ByteArray),0):=by
  unfold iB
  rw[agX e x rs (by omega) (by omega) (by omega),bn,decide_eq_true hb0,Bool.not_true,cond_false,sE,bn]
  dsimp only
  rw[hpk.v];rfl
 rw[epk,bn]
 dsimp only
 obtain⟨D,C,hrun,hC,hD,hP⟩:=ag6 (Q:=aK.mk 2 0 0 e.Length 63 0 0 0 (qZ e x rs).1 (⟨#[120]⟩:ByteArray)) td hpk rfl
 have hrt:=hx.rt
 rw[←hrt,ali td.ef.v hv hpk td.rt,hrun,bn]
 dsimp only
 have l1:=hC.length_eq
 have l2:=hD.length_eq
 rw[List.length_map]at l1 l2
 refine Ok.cs (λhc=>?_) λ_=>?_
 ·simp[l1,l2]at hc
 have hDn:(D.map (·.aR)).Nodup:=hD.nodup_iff.2 (td.asc.imp λh e=>by omega)
 have hCn:(C.map tI).Nodup:=hC.nodup_iff.2 (zd td.vr.asc)
 have hll:=td.aaS
 have ar2:∀(K:List Int→Option Bool),bH D 0 (λ(j3:Int) (e3:cu) (Z3:(List Int)→Option Bool) (pI:(List Int))=>bnd (gn pI e3.aR) λ(lz:(List Int))=>bif !(e3.bU.cv.toList==(⟨#[120]⟩:ByteArray).toList)then some false else Z3 lz) K []=K (D.foldl (λs d=>iq s d.aR) []):=λK=>by
  refine jW (L:=D) (λq s=>s=q.foldl (λs d=>iq s d.aR) []∧s.length≤q.length) (λ_ _=>K (D.foldl (λs d=>iq s d.aR) [])) (λs hs=>by rw[hs.1]) (λq d rest s Z h hi hZ=>?_) D [] _ rfl ⟨rfl,by simp⟩
  have hdl:D.length=q.length+(rest.length+1):=by rw[←h];simp
  have hd:d∈D:=by rw[←h];simp
  have:=hi.2
  rw[ahY _ _ (by omega),bn,hP d hd]
  rw[show((⟨#[120]⟩:ByteArray).toList==(⟨#[120]⟩:ByteArray).toList)=true from by simp,Bool.not_true,cond_false]
  refine hZ _ ⟨by rw[hi.1];simp,?_⟩
  have:=uO s d.aR
  simp only[List.length_append,List.length_cons,List.length_nil];omega
 have ar3:∀(K:List aX→Option Bool),bH C 0 (λ(j4:Int) (e4:aV) (Z4:(List aX)→Option Bool) (jG:(List aX))=>bnd (mZ jG (aX.mk e4.bh e4.To)) λ(qj:(List aX))=>Z4 qj) K []=K (C.foldl (λs d=>je s (tI d)) []):=λK=>by
  refine jW (L:=C) (λq s=>s=q.foldl (λs d=>je s (tI d)) []∧s.length≤q.length) (λ_ _=>K (C.foldl (λs d=>je s (tI d)) [])) (λs hs=>by rw[hs.1]) (λq d rest s Z h hi hZ=>?_) C [] _ rfl ⟨rfl,by simp⟩
  have hdl:C.length=q.length+(rest.length+1):=by rw[←h];simp
  have:=hi.2
  rw[acW _ _ (by omega),bn]
  refine hZ _ ⟨by rw[hi.1];simp[tI],?_⟩
  have:=(sY s (aX.mk d.bh d.To)).length_eq
  simp only[List.length_append,List.length_cons,List.length_nil]at this ⊢;omega
 rw[ar2,ar3]
 obtain⟨d1,d2⟩:=ack (λd:cu=>d.aR) D [] hDn (by simp) (by simp)
 obtain⟨c1,c2⟩:=acm tI C [] hCn (by simp) (by simp)
 have eD:D.foldl (λs d=>iq s d.aR) []=rs:=aaG d1 td.asc λy=>by
  rw[d2];simp only[List.not_mem_nil,false_or];exact hD.mem_iff
 have eC:C.foldl (λs d=>je s (tI d)) []=x.Links:=ad3 c1 td.vr.asc λy=>by
  rw[c2];simp only[List.not_mem_nil,false_or];exact hC.mem_iff
 rw[eD,eC,aoH,bn,decide_eq_true rfl,cond_true]
 rw[show cE.mk x.b9 x.Links=x from rfl,afg,bn,cond_true,ac1]
 exact⟨true,rfl,rfl⟩
end Go.Proofs.YtdjeacigeegklaaGreat
