/- Lists of bytes, as the akW own entries read adX. No condition but bH bq stand in each. -/
import Derived.Test.YtjdopimopgpagaaGreatBA
import Derived.Lib.BytesEntry
import Derived.Laws.Externs
namespace Go.Proofs.YtjdopimopgpagaaGreat
set_option linter.all false
open Go Go.Lib
theorem abP{I:Imm}{b:Nat}:∀(xs:List Int) (o:Nat),dK I b (ml (eK .u8) xs) o→∀(j:Nat) (x:Int),xs[j]?=some x→I b (o+j)=some (.int .u8 x)
 |[],_,_,j,x,h=>by simp at h
 |y::xs,o,h,0,x,hx=>by
  simp at hx;subst hx
  simp only[ml,List.map_cons,dK]at h
  obtain⟨⟨⟨u,h1,h2⟩,_⟩,_⟩:=h
  have h2':u=.int .u8 y:=by simpa [bg]using h2
  subst h2';simpa using h1
 |y::xs,o,h,j+1,x,hx=>by
  simp only[ml,List.map_cons,dK]at h
  have:=abP xs (o+1) (by simpa [ml,eK]using h.2) j x (by simpa using hx)
  rw[show o+(j+1)=o+1+j by omega];exact this
variable {G:Gl}{I:Imm}{P:Program}{cx:Cx}{f:Bool}{w:World}{xs:List Int}{β:Nat→Value}{σ:Sto}
theorem aaA(hw:bU G cx I β σ w){v:Value}(hv:bg I (.lst f (ml (eK .u8) xs)) v):
  (Extern.Bytes.bytesOf v).run P w=.ok ⟨(bytesOf xs).toArray⟩ w:=by
 simp only[bg]at hv
 obtain⟨a,c,rfl,h1,h2,h3,h4⟩:=hv
 have hl:(ml (eK .u8) xs).length=xs.length:=by simp[ml]
 rcases h4 with h4|⟨b,o,rfl,h4⟩
 ·have:xs=[]:=by cases xs with|nil=>rfl|cons y ys=>simp[ml]at h4
  subst this
  cases a<;>rfl
 ·have:=run_loadBytesX (P:=P) w xs ⟨b,o,none⟩ .empty (λj x hj=>by
   have e:(⟨b,o,none⟩:Addr).add j=⟨b,o+j,none⟩:=by unfold Addr.add;split<;>simp_all
   rw[e]
   exact hw.good _ _ _ (abP xs o h4 j x hj))
  show(Extern.Bytes.loadBytes ⟨b,o,none⟩ (ml (eK .u8) xs).length .empty).run P w=_
  rw[hl,this]
  congr 1
  apply ByteArray.ext
  show(#[]:Array UInt8)++(bytesOf xs).toArray=(bytesOf xs).toArray
  simp
variable {ys:List Int}
theorem aje(hw:bU G cx I β σ w){g:Bool}{u v:Value}(hu:bg I (.lst f (ml (eK .u8) xs)) u)(hv:bg I (.lst g (ml (eK .u8) ys)) v):
  (Extern.BytealgCompare.compare #[u,v]).run P w=.ok (.int .i64 (Go.Extern.BytealgCompare.cmp ⟨(bytesOf xs).toArray⟩ ⟨(bytesOf ys).toArray⟩)) w:=by
 have h1:=aaA (P:=P) hw hu
 have h2:=aaA (P:=P) hw hv
 change Sem.run P (do pure (goInt (Go.Extern.BytealgCompare.cmp (←Extern.Bytes.bytesOf u) (←Extern.Bytes.bytesOf v)))) w=_
 simp[Sem.run_bind,h1,h2,Result.andThen,goInt]
theorem amQ{f:Nat}(hE:∀(u v:Value) (n:Int) (w:World),(Extern.BytealgCompare.compare #[u,v]).run P w=.ok (.int .i64 n) w→Calls P f #[u,v] w λe w'=>e=.returned (.int .i64 n)∧w'=w)
  {p q:Bool} :RO P f [] [.lst p (ml (eK .u8) xs),.lst q (ml (eK .u8) ys)] (.int .i64 (Go.Extern.BytealgCompare.cmp ⟨(bytesOf xs).toArray⟩ ⟨(bytesOf ys).toArray⟩)):=λcx w I β vs hw hr=>by
 simp only[bI]at hr
 obtain⟨u,_,rfl,hu,v,_,rfl,hv,rfl⟩:=hr
 refine(hE u v _ w (aje hw (by simpa [Rep]using hu) (by simpa [Rep]using hv))).mono ?_
 rintro e w' ⟨rfl,rfl⟩
 exact⟨_,rfl,_,_,I,β,⟨rfl,rfl⟩,by simp[Rep,bg],hw⟩
end Go.Proofs.YtjdopimopgpagaaGreat
