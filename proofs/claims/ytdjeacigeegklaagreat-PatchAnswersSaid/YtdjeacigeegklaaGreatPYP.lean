/- Plain: the af9 Forward and Run yu to what the xb do. No condition but bO bx stand in each. -/
import Derived.Test.YtdjeacigeegklaaGreatPYO
namespace Go.Proofs.YtdjeacigeegklaaGreat
set_option linter.all false
open Go
noncomputable def qq(e:aF)(r:Int)(p:aH):cg×Int:=if rR e=0 then bif nW p then(if mo e p=0 then(ni e r p,0)else(cg.mk 0 0 [],mo e p))else(cg.mk 0 0 [],1)else(cg.mk 0 0 [],1)
theorem acT(e:aF)(r:Int)(p:aH)(hl:e.List.length≤1000):jF e r p=some (qq e r p):=by
 unfold jF qq
 simp only[jn,wO e (by omega),aN,mR,ai2]
 by_cases hv:rR e=0
 ·simp only[hv,decide_true,Bool.not_true,cond_false,if_true]
  cases hp:nW p
  ·rfl
  ·by_cases hs:mo e p=0
   ·simp only[hs,decide_true,Bool.not_true,cond_false,if_true,ahV (tu.1 hv),aN,cond_true]
   ·simp[hs]
 ·simp[hv]
theorem oh(e:aF)(r:Int)(p:aH)(hl:e.List.length≤1000):lK e r p=some (qq e r p):=by
 unfold lK qq
 simp only[uf e (show e.List.length≤1000000 by omega),aN,pI,af7,aef e r (show e.List.length≤1000000 by omega)]
 by_cases hve:rR e=0
 rotate_left
 ·simp only[jn];simp[hve]
 have hv:=tu.1 hve
 cases hp:nW p
 ·simp only[jn];simp[hve]
 by_cases hs:mo e p=0
 rotate_left
 ·simp only[jn];simp[hve,hs]
 unfold jn
 simp only[hve,hs,decide_true,Bool.not_true,cond_false,if_true,cond_true]
 unfold ni uF
 refine jM (L:=e.List) (λq (sg:Int×Int×List bh)=>sg=((q.filter (eW r p)).foldl orA 0,(q.filter (iY r p)).foldl orA 0,(q.filter (fm e r p)).map (lN e r p))) (λq l=>some (cg.mk ((e.List.filter (eW r p)).foldl orA 0) ((e.List.filter (iY r p)).foldl orA 0) ((e.List.filter (fm e r p)).map (lN e r p)),(0:Int))) (λs hs=>by rw[hs]) (λq x rest s Z h hi hZ=>?_) e.List [] _ rfl rfl
 subst hi
 have hx:x∈e.List:=by rw[←h];simp
 obtain⟨b0,b1⟩:=hv.bit hx
 have hel:=hv.small
 have hql:q.length≤64:=by
  have:e.List.length=q.length+(rest.length+1):=by rw[←h];simp
  omega
 have hfl:∀f:az→Bool,(q.filter f).length≤64:=λf=>Nat.le_trans (List.length_filter_le _ _) hql
 have pass:(∀f,f=fm e r p∨f=eW r p∨f=iY r p→f x=false)→Z ((q.filter (eW r p)).foldl orA 0,(q.filter (iY r p)).foldl orA 0,(q.filter (fm e r p)).map (lN e r p))=some (cg.mk ((e.List.filter (eW r p)).foldl orA 0) ((e.List.filter (iY r p)).foldl orA 0) ((e.List.filter (fm e r p)).map (lN e r p)),(0:Int)):=λhf=>hZ _ (by
  simp only[List.filter_append,List.filter_cons,List.filter_nil,hf _ (.inl rfl),hf _ (.inr (.inl rfl)),hf _ (.inr (.inr rfl)),Bool.false_eq_true,if_false,List.append_nil])
 have ew:IntKind.wrap .u64 x.Bit=x.Bit:=wrap_u64 b0 (by omega)
 simp only[ew]
 rw[decide_eq_true b0,za b0 b1,aaZ b0 b1]
 simp only[chk,cond_true]
 have eh:(!decide (x.br=r)||!tbi p.Bits x.Bit.toNat)=!lZ r p x:=by unfold lZ;cases decide (x.br=r)<;>rfl
 rw[eh]
 cases hh:lZ r p x
 ·exact pass λf hf=>by rcases hf with rfl|rfl|rfl<;>simp[fm,eW,iY,hh]
 simp only[Bool.not_true,cond_false]
 by_cases h3:x.Kind=3
 ·rw[decide_eq_true h3,cond_true]
  refine hZ _ ?_
  have e1:fm e r p x=false:=by simp[fm,h3]
  have e2:eW r p x=true:=by simp[eW,hh,h3]
  have e3:iY r p x=false:=by simp[iY,h3]
  simp only[List.filter_append,List.filter_cons,List.filter_nil,e1,e2,e3,Bool.false_eq_true,if_false,if_true,List.append_nil,List.foldl_append,List.foldl_cons,List.foldl_nil]
  rfl
 rw[decide_eq_false h3,cond_false]
 by_cases h4:p.TTL=0
 ·rw[decide_eq_true h4,cond_true]
  refine hZ _ ?_
  have e1:fm e r p x=false:=by simp[fm,h4]
  have e2:eW r p x=false:=by simp[eW,h3]
  have e3:iY r p x=true:=by simp[iY,hh,h3,h4]
  simp only[List.filter_append,List.filter_cons,List.filter_nil,e1,e2,e3,Bool.false_eq_true,if_false,if_true,List.append_nil,List.foldl_append,List.foldl_cons,List.foldl_nil]
  rfl
 rw[decide_eq_false h4,cond_false]
 by_cases h5:kV e r p=0
 ·have h5':aU .andNot .u64 p.Bits (uQ e r)=0:=h5
  rw[decide_eq_true h5']
  exact pass λf hf=>by rcases hf with rfl|rfl|rfl<;>simp[fm,eW,iY,h3,h4,h5]
 ·have h5':¬aU .andNot .u64 p.Bits (uQ e r)=0:=h5
  rw[decide_eq_false h5']
  simp only[Bool.not_false,cond_true]
  have e1:fm e r p x=true:=by simp[fm,hh,h3,h4,h5]
  have e2:eW r p x=false:=by simp[eW,h3]
  have e3:iY r p x=false:=by simp[iY,h4]
  have:=hfl (fm e r p)
  have fin:∀rt:List Int,rt=(if x.Kind=2 then[x.To]else[])→(bnd (dx ((q.filter (fm e r p)).map (lN e r p)) ([(bh.mk x.To (dP.mk rt (aH.mk p.Mode p.bQ p.Set p.Length (w64 (p.TTL-(1:Int))) p.cI p.cK p.dU (aU .andNot .u64 p.Bits (uQ e r)) p.cD)))]:List bh)) λ(l_1:List bh)=>Z ((q.filter (eW r p)).foldl orA 0,(q.filter (iY r p)).foldl orA 0,l_1))=some (cg.mk ((e.List.filter (eW r p)).foldl orA 0) ((e.List.filter (iY r p)).foldl orA 0) ((e.List.filter (fm e r p)).map (lN e r p)),(0:Int)):=λrt hrt=>by
   rw[lW (by simp;omega),aN]
   refine hZ _ ?_
   simp only[List.filter_append,List.filter_cons,List.filter_nil,e1,e2,e3,Bool.false_eq_true,if_false,if_true,List.append_nil,List.map_append,List.map_cons,List.map_nil,hrt]
   rfl
  by_cases h2:x.Kind=2
  ·rw[decide_eq_true h2,cond_true];exact fin _ (by rw[if_pos h2])
  ·rw[decide_eq_false h2,cond_false];exact fin _ (by rw[if_neg h2])
theorem xU:∀{l:List az} (k:Int),(l.Pairwise λa b=>a.Bit<b.Bit)→l.filter (λa=>decide (a.Bit<k+1))=l.filter (λa=>decide (a.Bit<k))++l.filter (λa=>decide (a.Bit=k))
 |[],_,_=>rfl
 |a::r,k,h=>by
  rw[List.pairwise_cons]at h
  have ih:=xU k h.2
  simp only[List.filter_cons]
  by_cases h1:a.Bit<k
  ·have h2:a.Bit<k+1:=by omega
   have h3:¬a.Bit=k:=by omega
   simp[h1,h2,h3,ih]
  ·have hr:r.filter (λa=>decide (a.Bit<k))=[]:=List.filter_eq_nil_iff.2 λb hb=>by have:=h.1 b hb;simp;omega
   by_cases h2:a.Bit=k
   ·have h3:a.Bit<k+1:=by omega
    have hr2:r.filter (λa=>decide (a.Bit=k))=[]:=List.filter_eq_nil_iff.2 λb hb=>by have:=h.1 b hb;simp;omega
    rw[hr,hr2]at ih
    simp[h1,h2,ih,hr,hr2];omega
   ·have h3:¬a.Bit<k+1:=by omega
    have hr2:r.filter (λa=>decide (a.Bit=k))=[]:=List.filter_eq_nil_iff.2 λb hb=>by have:=h.1 b hb;simp;omega
    rw[hr,hr2]at ih
    simp[h1,h2,h3,ih,hr,hr2]
theorem abT{e:aF}(hE:Ve e)(r:Int)(p:aH):jh r (ni e r p).Local p=some (mq e r p):=by
 unfold jh mq
 have hl:=hE.small
 have aln:(e.List.filter (eW r p)).Pairwise λa b=>a.Bit<b.Bit:=hE.asc.sublist List.filter_sublist
 have hfl:∀f:az→Bool,((e.List.filter (eW r p)).filter f).length≤64:=λf=>Nat.le_trans (List.length_filter_le _ _) (Nat.le_trans (List.length_filter_le _ _) hl)
 refine Ok.eq (Ok.mI (λj (out:List bW)=>out=((e.List.filter (eW r p)).filter λa=>decide (a.Bit<j)).map (afK r p)) 0 64 ?_ ?_ _ _ _ rfl (by omega) (by omega) ?_)
 ·rintro j out Z h1 h2 hi hZ
  subst hi
  have ew:IntKind.wrap .u64 j=j:=wrap_u64 h1 (by omega)
  simp only[jn,ew]
  refine Ok.chk (by simp;omega) ?_
  rw[ahN _ h1 h2]
  cases hb:tbi (ni e r p).Local j.toNat
  ·simp only[Bool.false_eq_true,if_false]
   refine hZ _ ?_
   rw[xU j aln]
   rw[show(e.List.filter (eW r p)).filter (λa=>decide (a.Bit=j))=[]from List.filter_eq_nil_iff.2 λa ha hd=>by
    obtain⟨a1,a2⟩:=List.mem_filter.1 ha
    have ha2:=ai4 hE (r:=r) (p:=p) a1
    simp only[decide_eq_true_eq]at hd
    rw[hd,hb,a2]at ha2;cases ha2]
   simp
  ·simp only[if_true,decide_true,cond_true]
   refine Ok.chk (by simp;omega) ?_
   rw[za h1 h2]
   have:=hfl λa=>decide (a.Bit<j)
   refine Ok.bnd (th (by rw[List.length_map,List.length_singleton];omega)) λm hm=>hZ _ ?_
   rw[hm.1,xU j aln,List.map_append]
   congr 1
   obtain⟨a,ha,h3,h4⟩:=(ai3 hE j.toNat).1 hb
   have hone:(e.List.filter (eW r p)).filter (λa=>decide (a.Bit=j))=[a]:=by
    have hm1:a∈(e.List.filter (eW r p)).filter (λa=>decide (a.Bit=j)):=List.mem_filter.2 ⟨List.mem_filter.2 ⟨ha,h3⟩,by simp;omega⟩
    have hall:∀b∈(e.List.filter (eW r p)).filter (λa=>decide (a.Bit=j)),b=a:=λb hb=>by
     obtain⟨b1,b2⟩:=List.mem_filter.1 hb
     simp only[decide_eq_true_eq]at b2
     exact hE.agL (List.mem_filter.1 b1).1 ha (by omega)
    have hp:((e.List.filter (eW r p)).filter (λa=>decide (a.Bit=j))).Pairwise λa b=>a.Bit<b.Bit:=aln.sublist List.filter_sublist
    generalize (e.List.filter (eW r p)).filter (λa=>decide (a.Bit=j))=l at hm1 hall hp
    cases l with
    |nil=>cases hm1
    |cons b l=>
     cases l with
     |nil=>rw[hall b (by simp)]
     |cons c l=>
      rw[List.pairwise_cons]at hp
      have:=hp.1 c (by simp)
      rw[hall b (by simp),hall c (by simp)]at this;omega
   rw[hone]
   have:a.Bit.toNat=j.toNat:=by omega
   simp[afK,adz,this]
 ·rintro j out h1 h2 hi
  have hj:j=64:=h2 (by omega)
  subst hj
  rw[hi]
  refine⟨_,rfl,?_⟩
  rw[show(e.List.filter (eW r p)).filter (λa=>decide (a.Bit<64))=e.List.filter (eW r p)from List.filter_eq_self.2 λa ha=>by
   have:=hE.bit (List.mem_filter.1 ha).1;simpa using this.2]
 ·rw[show(e.List.filter (eW r p)).filter (λa=>decide (a.Bit<0))=[]from List.filter_eq_nil_iff.2 λa ha=>by
   have:=hE.bit (List.mem_filter.1 ha).1;simp;omega]
  rfl
theorem aei{e:aF}{r:Int}{p:aH}{a:az}(h:a∈uF e r p):a∈e.List∧a.br=r∧tbi p.Bits a.Bit.toNat=true∧a.Kind≠3∧p.TTL≠0∧kV e r p≠0:=by
 obtain⟨h1,h2⟩:=List.mem_filter.1 h
 simp only[fm,lZ,Bool.and_eq_true,Bool.not_eq_true',decide_eq_false_iff_not,decide_eq_true_eq]at h2
 exact⟨h1,h2.1.1.1.1,h2.1.1.1.2,h2.1.1.2,h2.1.2,h2.2⟩
theorem ahW{e:aF}{p:aH}(hp:nW p=true)(hs:mo e p=0):Pk e p:=by
 unfold mo at hs
 by_cases h1:p.Mode=2
 ·by_cases h2:p.Length=e.Length
  ·exact⟨hp,h1,h2⟩
  ·rw[if_pos h1,if_neg h2]at hs;cases hs
 ·rw[if_neg h1]at hs;cases hs
theorem xB{α β:Type}{a:List α}{q:α→α→Bool}(hq:∀x,q x x=true)(n:Option β){B:Int→α→(Unit→Option β)→Unit→Option β}{K:Unit→Option β}
  (hB:∀j x Z,B j x Z ()=bnd (elO a j) λe=>bif !q x e then n else Z ()):bJ a 0 B K ()=K ():=
 jM (L:=a) (λ_ _=>True) (λ_ _=>K ()) (λs _=>rfl) (λp x r s Z h _ hZ=>by
  rw[hB,←h,acE,aN,hq];exact hZ () trivial) a [] () rfl trivial
theorem alo(p:aH):mA p p=true:=by simp[mA]
theorem ahX(x:dy):l7 x x=some true:=by
 unfold l7
 simp only[decide_true,Bool.not_true,Bool.or_false,cond_false]
 refine(xB (a:=x.cG) (q:=ru) (λd=>by simp[ru]) (some false) (by intros;rfl)).trans ?_
 refine(xB (a:=x.cr) (q:=ry) (λd=>by simp[ry]) (some false) (by intros;rfl)).trans ?_
 exact xB (a:=x.dR) (q:=x6) (λd=>by simp[x6]) (some false) (by intros;rfl)
theorem afL(x:cg):kj x x=some true:=by
 unfold kj
 simp only[decide_true,Bool.not_true,Bool.or_false,cond_false]
 refine jM (L:=x.bz) (λ_ _=>True) (λ_ _=>some true) (λs _=>rfl) (λp c r s Z h _ hZ=>?_) x.bz [] () rfl trivial
 have e0:elO x.bz (p.length:Int)=some c:=by rw[←h,acE]
 simp only[e0,aN,decide_true,Bool.not_true,alo,Bool.or_false,cond_false]
 refine(xB (a:=c.Frame.dZ) (q:=λa b=>decide (a=b)) (λd=>by simp) (some false) (by intros;rfl)).trans ?_
 exact hZ () trivial
end Go.Proofs.YtdjeacigeegklaaGreat
