/- Plain: the law yR is true. No condition. -/
import Derived.Test.YtdjeacigeegklaaPYN
import Derived.Test.YtdjeacigeegklaaDL2
namespace Go.Proofs.Ytdjeacigeegklaa
set_option linter.all false
open Go
theorem wu {l m : List Int} (hn : l.Nodup) (h : ∀ x ∈ l, x ∈ m) : l.length ≤ m.length := by
 induction l generalizing m with
 | nil => simp
 | cons a r ih =>
  rw [List.nodup_cons] at hn
  have ha := h a (by simp)
  have hp := List.perm_cons_erase ha
  have := ih (m := m.erase a) hn.2 fun x hx => by
   have hxm := h x (by simp [hx])
   rcases List.mem_cons.1 (hp.mem_iff.1 hxm) with e | e
   ·subst e; exact absurd hx hn.1
   ·exact e
  have hl := hp.length_eq
  simp only [List.length_cons] at hl ⊢
  omega
theorem tZ (t : List Int) : iu t = some true := by
 unfold iu
 refine Ok.eq (Ok.bnd (acm t) fun s hs => Ok.bnd (rF hs (by omega)) fun p hp => ?_)
 obtain ⟨g, t1⟩ := p
 obtain ⟨hg, ht⟩ := hp
 have hv : Vt g := hg.v
 have hnr := hv.nr
 refine Ok.bnd (ya ht hv hg.n.1) fun p hp => ?_
 obtain ⟨e, t2⟩ := p
 obtain ⟨he, ht⟩ := hp
 have he : Ef g e := he
 have hE := he.v
 refine Ok.bnd (yd (e := e) ht hE) fun q hq => ?_
 obtain ⟨q, t3⟩ := q
 obtain ⟨hq, ht⟩ := hq
 have hq : Pk e q := hq
 have hgn : 1 ≤ g.aC.length := hg.n.1
 refine pF (g := g) ht (by omega) fun a r ha hr hid => ?_
 refine Ok.jY (fun j (sg : Int × List Int × Int × Int × Int × Int × Int × Int × Int × Int × Int × ByteArray × List Int × Int) => match sg with
  | (vr, seen, m1, m2, m3, m4, m5, m6, m7, m8, m9, m10, m11, m12) => Pk e (aS.mk m1 m2 m3 m4 m5 m6 m7 m8 m9 m10) ∧ vr ∈ ids g ∧ m5 = 63 - j ∧ (seen.length : Int) = j ∧ seen.Nodup ∧ (∀ x ∈ seen, x ∈ ids g) ∧ (∀ x ∈ seen, ∀ a ∈ e.List, a.aR = x → tbi m9 a.Bit.toNat = false) ∧ dB (aQ.mk m11 m12)) 0 30 ?_ ?_ _ _ _ rfl (by omega) (by omega) ?_
 ·rintro j ⟨vr, seen, m1, m2, m3, m4, m5, m6, m7, m8, m9, m10, m11, m12⟩ Z j0 j1 ⟨h1, h2, h3, h4, h5, h6, h7, h8⟩ hZ
  generalize hqq : aS.mk m1 m2 m3 m4 m5 m6 m7 m8 m9 m10 = Q at h1
  have hB : m9 = Q.Bits := by rw [← hqq]
  have hT : m5 = Q.TTL := by rw [← hqq]
  have h0 : ¬ Q.TTL = 0 := by omega
  simp only [hqq, aaW hE h1.v vr h1.agO, bK]
  have arA : (lJ e vr Q).mg = 0 := by
   show ((e.List.filter (gn vr Q)).foldl orA 0) = 0
   rw [show e.List.filter (gn vr Q) = [] from List.filter_eq_nil_iff.2 fun a _ => by simp [gn, h0]]; rfl
  simp only [arA, decide_true, Bool.not_true, Bool.or_false, cond_false, f_in, bK]
  by_cases hs : vr ∈ seen
  ·have agP : ∀ a ∈ e.List, kX vr Q a = false := fun a ha => by
    unfold kX
    by_cases hr : a.aR = vr
    ·have := h7 vr hs a ha hr; rw [hB] at this; rw [this, Bool.and_false]
    ·simp [hr]
   have e1 : (lJ e vr Q).Local = 0 := by
    show ((e.List.filter (fL vr Q)).foldl orA 0) = 0
    rw [show e.List.filter (fL vr Q) = [] from List.filter_eq_nil_iff.2 fun a ha => by simp [fL, agP a ha]]; rfl
   have e2 : (lJ e vr Q).kH = [] := by
    show (cV e vr Q).map (fS e vr Q) = []
    rw [show cV e vr Q = [] from List.filter_eq_nil_iff.2 fun a ha => by simp [eA, agP a ha]]; rfl
   rw [decide_eq_true hs, e1, e2, pe]
   exact ⟨true, rfl, rfl⟩
  ·rw [decide_eq_false hs, cond_false]
   have hsl : seen.length ≤ 24 := Nat.le_trans (wu h5 h6) (by simpa [ids] using hnr)
   refine Ok.bnd (sY (by simp; omega)) fun l hl => ?_
   refine Ok.cs (fun _ => by rw [pe]; exact ⟨true, rfl, rfl⟩) fun hc => ?_
   have hc : ¬ (((lJ e vr Q).kH.length : Int) = 0) := by simpa using hc
   have hcl : (lJ e vr Q).kH.length ≤ 64 := by
    show ((cV e vr Q).map (fS e vr Q)).length ≤ 64
    rw [List.length_map]; exact Nat.le_trans (List.length_filter_le _ _) hE.small
   refine Ok.bnd (f_n h8 (by omega)) fun k hk => Ok.bnd (mq hk.1.1 (hk.1.2.1 (by omega))) fun c hc2 => ?_
   obtain ⟨x, hx, rfl⟩ := List.mem_map.1 (show c ∈ (cV e vr Q).map (fS e vr Q) from hc2.1)
   obtain ⟨hxe, hxs⟩ := List.mem_filter.1 hx
   have hxh : kX vr Q x = true := by
    simp only [eA, Bool.and_eq_true] at hxs; exact hxs.1.1.1
   have hxr : dU e vr Q ≠ 0 := by
    simp only [eA, Bool.and_eq_true, Bool.not_eq_true', decide_eq_false_iff_not] at hxs; exact hxs.2
   simp only [kX, Bool.and_eq_true, decide_eq_true_eq] at hxh
   have hxb := hE.bit hxe
   have nb : bH .andNot .u64 (dU e vr Q) m9 = 0 := s5 tQ s6 fun i _ => by
    rw [tbn, jI, dU, tbn, hB]; cases tbi Q.Bits i <;> simp
   have ne : ¬ dU e vr Q = m9 := fun h => by
    have h1 : tbi (dU e vr Q) x.Bit.toNat = true := by rw [h, hB]; exact hxh.2
    rw [dU, tbn, (vj hE vr x.Bit.toNat).2 ⟨x, hxe, hxh.1, by omega⟩] at h1
    simp at h1
   have et : (fS e vr Q x).Frame.aJ.TTL = w64 (m5 - 1) := by rw [hT]; rfl
   rw [show (fS e vr Q x).Frame.aJ.Bits = dU e vr Q from rfl, nb, decide_eq_false ne, et]
   simp only [decide_true, Bool.not_true, Bool.or_false, cond_false]
   have hgo := h1.go hE vr hxr (by omega)
   refine hZ _ ⟨(by rw [hT]; exact hgo), (he.ok x hxe).q, ?_, ?_, ?_, ?_, ?_, hk.2⟩
   ·show w64 (m5 - 1) = _; rw [gH (by omega) (by omega)]; omega
   ·have := hl.2; simp at this ⊢; omega
   ·rw [hl.1, List.nodup_append]
    refine ⟨h5, by simp, fun a ha b hb hab => ?_⟩
    simp at hb; subst hb; subst hab; exact hs ha
   ·intro y hy
    rw [hl.1] at hy
    rcases List.mem_append.1 hy with hy | hy
    ·exact h6 y hy
    ·simp at hy; subst hy; exact h2
   ·intro y hy a ha har
    show tbi (dU e vr Q) a.Bit.toNat = false
    rw [dU, tbn]
    rw [hl.1] at hy
    rcases List.mem_append.1 hy with hy | hy
    ·have := h7 y hy a ha har; rw [hB] at this; rw [this, Bool.false_and]
    ·simp at hy; subst hy
     have hb := hE.bit ha
     rw [(vj hE y a.Bit.toNat).2 ⟨a, ha, har, by omega⟩]; simp
 ·rintro j ⟨vr, seen, m1, m2, m3, m4, m5, m6, m7, m8, m9, m10, m11, m12⟩ j0 j1 ⟨h1, h2, h3, h4, h5, h6, h7, h8⟩
  have hj : j = 30 := j1 (by omega)
  have hsl : seen.length ≤ 24 := Nat.le_trans (wu h5 h6) (by simpa [ids] using hnr)
  omega
 ·exact ⟨hq.ttl 63 (by omega), hid, by omega, by simp, by simp, by simp, by simp, ha⟩
end Go.Proofs.Ytdjeacigeegklaa
