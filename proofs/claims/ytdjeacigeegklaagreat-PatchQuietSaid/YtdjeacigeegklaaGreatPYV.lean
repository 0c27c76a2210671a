/- Plain: trees, receivers and aeb as the laws draw afp. No condition but bK bn stand in each. -/
import Derived.Test.YtdjeacigeegklaaGreatPYU
namespace Go.Proofs.YtdjeacigeegklaaGreat
set_option linter.all false
open Go
theorem ajV{x:dY}{Lst:List Int}(hL:Lst.length≤1000){n:Int}(hn:n≤100){t:bL}(h:fV t){γ:Type}{P:γ→Prop}{K:List Int×List Int×Int→Option γ}
  (hK:∀rs L A,rs.Sublist Lst→(∀y∈Lst,(∀k∈x.Links,k.bx≠y)→y∈rs)→fV (bL.mk L A)→Ok (K (rs,L,A)) P) :
  Ok (bD Lst 0 (λ(j1:Int) (e1:Int) (Z1:((List Int)×(List Int)×Int)→Option γ) (sg:(List Int)×(List Int)×Int)=>match sg with|(fH,m_1,m_2)=>jn (λ(sg:(List Int)×(List Int)×Int)=>match sg with|(mC,m_3,m_4)=>Z1 (mC,m_3,m_4)) λJ1=>bD x.Links 0 (λ(j2:Int) (e2:aV) (Z2:Bool→Option γ) (pz:Bool)=>(bif pz then Z2 (!decide (e2.bx=e1))else Z2 false)) (λ(pz:Bool)=>jn (λ(sg:Bool×(List Int)×Int)=>match sg with|(v_1,m_5,m_6)=>bif v_1 then bnd (dB fH ([e1]:List Int)) λ(l_1:List Int)=>J1 (l_1,m_5,m_6)else J1 (fH,m_5,m_6)) λJ2=>(bif pz then J2 (true,m_1,m_2)else bnd (cv (bL.mk m_1 m_2) n) λ(cw:Int×bL)=>J2 (decide (cw.1=(0:Int)),cw.2.L,cw.2.At))) true) K ([],t.L,t.At)) P:=by
 refine Ok.acg (L:=Lst) (λp (sg:List Int×List Int×Int)=>sg.1.Sublist p∧(∀y∈p,(∀k∈x.Links,k.bx≠y)→y∈sg.1)∧fV (bL.mk sg.2.1 sg.2.2)) (λp y rest s Z hl hI hZ=>?_) _ ⟨by simp,by simp,h⟩ (λs hs=>hK _ _ _ hs.1 hs.2.1 hs.2.2)
 obtain⟨rs,L,A⟩:=s
 obtain⟨i1,i2,i3⟩:=hI
 have i1:rs.Sublist p:=i1
 have hlen:rs.length≤1000:=by
  have h1:=i1.length_le
  have h2:Lst.length=p.length+(rest.length+1):=by rw[hl];simp
  omega
 simp only[jn]
 refine Eq.subst (motive:=λz=>Ok z _) (acp (λk:aV=>decide (k.bx=y)) (λj k Z s=>by cases s<;>rfl) x.Links 0 true).symm ?_
 have fin:∀(b:Bool) (L A),(b=false→∃k∈x.Links,k.bx=y)→fV (bL.mk L A)→Ok (bif b then bnd (dB rs ([y]:List Int)) λ(l_1:List Int)=>Z (l_1,L,A)else Z (rs,L,A)) P:=λb L A hb hT=>by
  cases b
  ·refine hZ _ ⟨i1.trans (List.sublist_append_left _ _),λz hz hk=>?_,hT⟩
   rcases List.mem_append.1 hz with hz|hz
   ·exact i2 z hz hk
   ·rw[List.mem_singleton]at hz
    subst hz
    obtain⟨k,hk1,hk2⟩:=hb rfl
    exact absurd hk2 (hk k hk1)
  ·rw[cond_true,ki (by omega),aM]
   refine hZ _ ⟨i1.append (List.Sublist.refl _),λz hz hk=>?_,hT⟩
   rcases List.mem_append.1 hz with hz|hz
   ·exact List.mem_append_left _ (i2 z hz hk)
   ·exact List.mem_append_right _ hz
 rw[Bool.true_and]
 cases he:x.Links.any λk=>decide (k.bx=y)
 ·exact fin true L A (λh=>by cases h) i3
 ·refine Ok.bnd (f_n i3 (by omega)) λu hu=>fin _ _ _ (λ_=>?_) hu.2
  obtain⟨k,hk,h1⟩:=List.any_eq_true.1 he
  exact⟨k,hk,by simpa using h1⟩
theorem aqY{e:aC}(hE:Ve e){B:Int}{n:Int}{pay:ByteArray}(hB:∀i:Nat,tbi B i=true→(i:Int)<e.Length)(hn:0≤n∧n≤63)(hp:(pay.size:Int)≤64):Pk e (aH.mk 2 0 0 e.Length n 0 0 0 B pay):=by
 refine⟨o4.2 ⟨by simp only;omega,by simp only;omega,by simp only;omega,aaC.2 ⟨?_,hB⟩,hn,by simp only;omega,by simp only;omega,by simp only;omega,hp⟩,rfl,rfl⟩
 have:=hE.len;simpa [kU]using this
theorem aml{g:aa}(hv:Vt g){n:Int}{e:aC}(he:kY g n=(e,0)):e.Length=n:=by
 obtain⟨_,q2,_⟩:=aea (n:=n) hv (by rw[he])
 rw[he]at q2
 rw[(Prod.mk.inj q2).1]
theorem hi64(B:Int)(i:Nat)(h:tbi B i=true):(i:Int)<64:=by
 by_cases hi:i<64
 ·omega
 ·rw[afn B (by omega)]at h;cases h
theorem aiI{t:bL}(h:fV t):Ok (qh t) (λq=>Vn q.1 7∧fV q.2.2.2.2.2.2∧(q.2.2.2.2.2.1=true→Td q.1 q.2.1 q.2.2.1 q.2.2.2.1 q.2.2.2.2.1.Bits∧Pk q.2.1 q.2.2.2.2.1∧q.2.2.2.2.1.TTL=63)∧q.2.1.List.length≤1000∧q.2.2.1.Links.length≤200):=by
 unfold qh
 refine Ok.bnd (agl h (by omega)) λq hq=>?_
 obtain⟨g,t1⟩:=q
 obtain⟨hg,ht⟩:=hq
 have hg:Vn g 7:=hg
 have hv:Vt g:=hg.v
 have hnr:=hv.nr
 have hgn:1≤g.aj.length:=hg.n.1
 dsimp only
 rw[adm,aM]
 refine Ok.bnd (f_n ht (by omega)) λk hk=>Ok.bnd (jM hk.1.1 (hk.1.2.1 (by omega))) λr hr=>Ok.bnd (al6 (root:=r.ID) hk.2 hv) λx hx=>?_
 obtain⟨x,t2⟩:=x
 obtain⟨hx,ht2⟩:=hx
 have hx:Tn g r.ID x:=hx
 have hid:r.ID∈ids g:=List.mem_map.2 ⟨r,hr.1,rfl⟩
 have hxl:=hx.len
 dsimp only
 rw[uO x (by omega),aM]
 have hrl:=aqM x
 refine ajV (x:=x) (Lst:=nX x) (by omega) (n:=2) (by omega) ht2 λrs L A h1 h2 h3=>?_
 dsimp only
 have hrs:=h1.length_le
 have hfl:=aiD g 64
 unfold qu
 rw[aiv (kY g 64).1 x rs (by omega) (by omega) (by omega),aM]
 by_cases hb:(vj (kY g 64).1 x rs).2=0
 rotate_left
 ·rw[decide_eq_false hb,Bool.not_false,cond_true,aM]
  refine Ok.s ⟨hg,h3,λhh=>?_,hfl,hxl⟩
  simp only[Bool.and_eq_true,decide_eq_true_eq]at hh
  exact absurd hh.2 hb
 ·rw[decide_eq_true hb,Bool.not_true,cond_false,pH,aM]
  by_cases hf:(kY g 64).2=0
  ·obtain⟨e,he⟩:∃e,kY g 64=(e,0):=⟨(kY g 64).1,by rw[←hf]⟩
   obtain⟨td,_⟩:=ax7 hv he hid hx h1 h2
   have hlen:=aml hv he
   have hpk:=aqY (e:=e) (B:=(vj e x rs).1) (n:=63) (pay:=⟨#[]⟩) td.ef.v (λi hi=>by rw[hlen];exact hi64 _ i hi) (by omega) (by decide)
   rw[he]
   dsimp only
   rw[hpk.v,Bool.not_true,cond_false,aM]
   refine Ok.s ⟨hg,h3,λ_=>⟨td,hpk,rfl⟩,?_,hxl⟩
   rw[he]at hfl;exact hfl
  ·cases hvl:l9 (aH.mk 2 0 0 (kY g 64).1.Length 63 0 0 0 (vj (kY g 64).1 x rs).1 (⟨#[]⟩:ByteArray))
   ·rw[Bool.not_false,cond_true,aM]
    refine Ok.s ⟨hg,h3,λhh=>?_,hfl,hxl⟩
    simp only[Bool.and_eq_true,decide_eq_true_eq]at hh
    exact absurd hh.1 hf
   ·rw[Bool.not_true,cond_false,aM]
    refine Ok.s ⟨hg,h3,λhh=>?_,hfl,hxl⟩
    simp only[Bool.and_eq_true,decide_eq_true_eq]at hh
    exact absurd hh.1 hf
end Go.Proofs.YtdjeacigeegklaaGreat
