/- Plain: the law yY is true. No condition. -/
import Derived.Test.YtmfehenfoepkfaaPYL
import Derived.Test.YtmfehenfoepkfaaDL0
namespace Go.Proofs.Ytmfehenfoepkfaa
set_option linter.all false
open Go
theorem uu (t : List Int) (raw : bB) (receivers : List Int) : hU t raw receivers = some true := by
 unfold hU
 refine Ok.eq (Ok.cs (fun _ => by rw [mZ]; exact ⟨true, rfl, rfl⟩) fun h0 => ?_)
 simp only [Bool.or_eq_false_iff, decide_eq_false_iff_not] at h0
 refine Ok.bnd (zJ t) fun s hs => Ok.bnd (mW hs (by omega)) fun p hp => ?_
 obtain ⟨g, t1⟩ := p
 obtain ⟨hg, ht⟩ := hp
 have hv : Vt g := hg.v
 have hnr := hv.nr
 refine Ok.bnd (ur ht hv hg.n.1) fun p hp => ?_
 obtain ⟨e, t2⟩ := p
 obtain ⟨he, ht⟩ := hp
 have he : Ef g e := he
 have hsm := he.v.small
 have hlen := he.v.len
 refine Ok.bnd (um (g := g) ht (by omega)) fun r hr => Ok.bnd (xD (g := g) hr.2 hv) fun x hx => ?_
 have hxl := hx.1.len
 refine Ok.bnd (vE hx.2 (by omega)) fun y hy => Ok.bnd (vE hy.2 (by omega)) fun z hz => Ok.bnd (vE hz.2 (by omega)) fun w hw => ?_
 refine Ok.forM (L := [raw, x.1, y.1, w.1]) (fun _ (sg : List Int × Int) => bP (aC.mk sg.1 sg.2)) (fun j e1 s Z hj hm hI hZ => ?_) _ hw.2 fun s hs => by rw [mZ]; exact ⟨true, rfl, rfl⟩
 have hel : e1.Links.length ≤ 300 := by
  simp only [List.mem_cons, List.not_mem_nil, or_false] at hm
  rcases hm with rfl | rfl | rfl | rfl <;> omega
 obtain ⟨L, A⟩ := s
 have hI : bP (aC.mk L A) := hI
 simp only [jn]
 rw [qw e1 (by omega), aL, pE e1 (by omega), aL, decide_eq_true rfl]
 rw [wH e1 (by omega), lY e1 (by omega), aL, aL, ac8, aL, decide_eq_true rfl]
 rw [lY x.1 (by omega)]
 simp only [Bool.not_true, cond_false, aL]
 have hrl := wj x.1
 refine Ok.bnd (afo (g := g) hI (by omega) (by omega)) fun so hso => ?_
 refine Ok.forM (L := [receivers, jH x.1, so.1, []]) (fun _ (sg : List Int × Int) => bP (aC.mk sg.1 sg.2)) (fun j rs s Z2 hj hm hI2 hZ2 => ?_) _ hso.2 fun s hs => hZ _ hs
 obtain ⟨L2, A2⟩ := s
 have hI2 : bP (aC.mk L2 A2) := hI2
 have hrs : rs.length ≤ 300 := by
  simp only [List.mem_cons, List.not_mem_nil, or_false] at hm
  rcases hm with rfl | rfl | rfl | rfl
  ·omega
  ·omega
  ·have := hso.1.2.2; omega
  ·simp
 refine Ok.bnd (wJ (x := e) hI2 (by omega) (by omega)) fun b hb => ?_
 refine Ok.forM (L := [e, b.1]) (fun _ (_ : Unit) => True) (fun j c s Z3 hj hm _ hZ3 => ?_) () trivial fun s _ => hZ2 _ hb.2
 have hcl : c.List.length ≤ 100 := by
  simp only [List.mem_cons, List.not_mem_nil, or_false] at hm
  rcases hm with rfl | rfl
  ·omega
  ·have := hb.1; omega
 rw [xH c e1 rs (by omega) (by omega) (by omega), aL, acp c e1 rs (by omega) (by omega) (by omega), aL, decide_eq_true rfl, decide_eq_true rfl]
 exact hZ3 () trivial
end Go.Proofs.Ytmfehenfoepkfaa
