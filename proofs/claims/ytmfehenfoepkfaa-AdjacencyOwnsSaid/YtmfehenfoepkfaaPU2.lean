/- Plain: the law zz is true. No condition. -/
import Derived.Test.YtmfehenfoepkfaaPYI
import Derived.Test.YtmfehenfoepkfaaDL2
namespace Go.Proofs.Ytmfehenfoepkfaa
set_option linter.all false
open Go
theorem aiz : dI = some true := by kernel_rfl
theorem uG (t : List Int) : iG t = some true := by
 unfold iG
 refine Ok.eq (Ok.bnd (zJ t) fun s hs => Ok.bnd (mW hs (by omega)) fun p hp => ?_)
 obtain ⟨g, t1⟩ := p
 obtain ⟨hg, ht⟩ := hp
 have hv : Vt g := hg.v
 refine Ok.bnd (ur ht hv hg.n.1) fun p hp => ?_
 obtain ⟨e, t2⟩ := p
 obtain ⟨he, _⟩ := hp
 have he : Ef g e := he
 have hE := he.v
 have hl : e.List.length ≤ 1000000 := by have := hE.small; omega
 refine Ok.jh (fun r (all : Int) => B64 all ∧ ∀ i, tbi all i = true ↔ ∃ a ∈ e.List, a.aT < r ∧ a.Bit = (i : Int)) 1 100 ?_ ?_ _ _ _ rfl (by omega) (by omega) ⟨qi, fun i => ?_⟩
 ·rintro r all Z h1 h2 ⟨hb, hi⟩ hZ
  simp only [wg e r hl, aL]
  have hz : cg .and .u64 all (rX e r) = 0 := yg aga qi fun i _ => by
   rw [ac9 hb (aco hE r), oF]
   cases q1 : tbi all i
   ·rfl
   ·cases q2 : tbi (rX e r) i
    ·rfl
    ·obtain ⟨a, ha, ha1, ha2⟩ := (hi i).1 q1
     obtain ⟨b, hb, hb1, hb2⟩ := (aaL hE r i).1 q2
     have := hE.abi ha hb (by omega)
     subst this; omega
  rw [hz]
  refine hZ _ ⟨aci, fun i => ?_⟩
  rw [zK hb (aco hE r), Bool.or_eq_true, hi, aaL hE]
  constructor
  ·rintro (⟨a, ha, h3, h4⟩ | ⟨a, ha, h3, h4⟩)
   ·exact ⟨a, ha, by omega, h4⟩
   ·exact ⟨a, ha, by omega, h4⟩
  ·rintro ⟨a, ha, h3, h4⟩
   by_cases h5 : a.aT = r
   ·exact .inr ⟨a, ha, h5, h4⟩
   ·exact .inl ⟨a, ha, by omega, h4⟩
 ·rintro r all h1 h2 ⟨hb, hi⟩
  have hr : r = 100 := h2 (by omega)
  subst hr
  refine Ok.xy (L := e.List) (fun p (w : Int) => B64 w ∧ ∀ i, tbi w i = true ↔ ∃ a ∈ p, a.Bit = (i : Int)) (fun p x rest s Z hL hI hZ => ?_) 0 ⟨qi, fun i => by rw [oF]; simp⟩ (fun w hw => ?_)
  ·obtain ⟨i1, i2⟩ := hI
   have hx : x ∈ e.List := by rw [hL]; simp
   have hxb := hE.bit hx
   have ew : IntKind.wrap .u64 x.Bit = x.Bit := wrap_u64 hxb.1 (by omega)
   rw [ew]
   refine Ok.chk (by simp; omega) ?_
   rw [xA e _ _ _ hl, abj hE hx, aL]
   simp only [jn, Bool.not_true, cond_false, decide_true, wg e _ hl, aL, ew]
   refine Ok.chk (by simp; omega) ?_
   rw [aax hxb.1 hxb.2]
   have hne : cg .and .u64 (rX e x.aT) (vz x.Bit.toNat) ≠ 0 := fun h0 => by
    have := ac9 (aco hE x.aT) (tq (k := x.Bit.toNat) (by omega)) x.Bit.toNat
    rw [h0, oF, qV x.Bit.toNat _ (by omega), (aaL hE x.aT x.Bit.toNat).2 ⟨x, hx, rfl, by omega⟩] at this
    simp at this
   rw [decide_eq_false hne]
   refine hZ _ ⟨aci, fun i => ?_⟩
   rw [zK i1 (tq (by omega)), qV x.Bit.toNat i (by omega), Bool.or_eq_true, i2, decide_eq_true_eq]
   constructor
   ·rintro (⟨a, ha, h⟩ | h)
    ·exact ⟨a, by simp [ha], h⟩
    ·exact ⟨x, by simp, by omega⟩
   ·rintro ⟨a, ha, h⟩
    rcases List.mem_append.1 ha with ha | ha
    ·exact .inl ⟨a, ha, h⟩
    ·simp at ha; subst ha; exact .inr (by omega)
  ·obtain ⟨i1, i2⟩ := hw
   have : all = w := yg hb i1 fun i _ => by
    rw [Bool.eq_iff_iff, hi, i2]
    constructor
    ·rintro ⟨a, ha, _, h⟩; exact ⟨a, ha, h⟩
    ·rintro ⟨a, ha, h⟩; exact ⟨a, ha, by have := (hE.rng a ha).2.2.1; omega, h⟩
   subst this
   have := hv.nr; have := hv.nl
   rw [decide_eq_true rfl, cond_true, aaC e g hl (by omega) (by omega), he.fits hv, aL, aiz]
   exact ⟨true, rfl, rfl⟩
 ·rw [oF]
  simp only [Bool.false_eq_true, false_iff]
  rintro ⟨a, ha, h1, _⟩
  have := (hE.rng a ha).2.2.1; omega
end Go.Proofs.Ytmfehenfoepkfaa
