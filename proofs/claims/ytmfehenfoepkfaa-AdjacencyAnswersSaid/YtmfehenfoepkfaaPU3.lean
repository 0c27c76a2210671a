/- Plain: the law xI is true. No condition. -/
import Derived.Test.YtmfehenfoepkfaaPYL
import Derived.Test.YtmfehenfoepkfaaDL3
namespace Go.Proofs.Ytmfehenfoepkfaa
set_option linter.all false
open Go
theorem sW (t : List Int) (raw : aB) (p : aj) (bz kind to_ : Int) : gF t raw p bz kind to_ = some true := by
 unfold gF nT jy
 refine Ok.eq (Ok.jn (fun v : Bool => v = false → raw.List.length ≤ 80 ∧ p.ay.length ≤ 30 ∧ p.Links.length ≤ 70) (fun v hv0 => Ok.cs (fun _ => by rw [mZ]; exact ⟨true, rfl, rfl⟩) fun hc => ?_) fun J hJ => ?_)
 ·obtain ⟨h1, h2, h3⟩ := hv0 hc
  refine Ok.bnd (zJ t) fun s hs => Ok.bnd (mW hs (by omega)) fun q hq => ?_
  obtain ⟨g, t1⟩ := q
  obtain ⟨hg, ht⟩ := hq
  have hv : Vt g := hg.v
  have hnr := hv.nr
  have hnl := hv.nl
  refine Ok.bnd (ur ht hv hg.n.1) fun q hq => ?_
  obtain ⟨e, t2⟩ := q
  obtain ⟨he, ht⟩ := hq
  have he : Ef g e := he
  have hsm := he.v.small
  have hlen := he.v.len
  refine Ok.bnd (wJ (x := e) ht (by omega) (by omega)) fun b hb => ?_
  refine Ok.forM (L := [raw, e, b.1]) (fun _ (sg : List Int × Int) => bP (aC.mk sg.1 sg.2)) (fun j c s Z hj hm hI hZ => ?_) _ hb.2 fun s hs => ?_
  ·have hcl : c.List.length ≤ 100 := by
    simp only [List.mem_cons, List.not_mem_nil, or_false] at hm
    rcases hm with rfl | rfl | rfl
    ·omega
    ·omega
    ·have := hb.1; omega
   obtain ⟨L, A⟩ := s
   have hI : bP (aC.mk L A) := hI
   simp only [jn]
   rw [mV c (by omega), k9 c (by omega), aL, aL, decide_eq_true rfl, afm, yj, aL, aL]
   rw [show (sF c e == sF c e) = true by simp]
   simp only [Bool.not_true, cond_false]
   refine Ok.bnd (uC (g := g) hI (by omega)) fun bt hbt => Ok.bnd (mW hbt.2 (by omega)) fun q2 hq2 => ?_
   have hv2 : Vt q2.1 := hq2.1.v
   have hnr2 := hv2.nr
   have hnl2 := hv2.nl
   refine Ok.forM (L := [p, g, bt.1, q2.1]) (fun _ (_ : Unit) => True) (fun j y s Z2 hj hm _ hZ2 => ?_) () trivial fun s _ => ?_
   ·have hy : y.ay.length ≤ 100 ∧ y.Links.length ≤ 100 := by
     simp only [List.mem_cons, List.not_mem_nil, or_false] at hm
     rcases hm with rfl | rfl | rfl | rfl
     ·omega
     ·omega
     ·have := hbt.1; omega
     ·omega
    rw [aaC c y (by omega) (by omega) (by omega), acj c y (by omega), aL, aL, decide_eq_true rfl]
    exact hZ2 () trivial
   ·refine Ok.bnd (um (g := g) hq2.2 (by omega)) fun a1 ha1 => Ok.bnd (pW ha1.2) fun a2 ha2 => Ok.bnd (um (g := g) ha2.2 (by omega)) fun a3 ha3 => ?_
    rw [xA c _ _ _ (by omega), qL c _ _ _ (by omega), aL, aL, xA c _ _ _ (by omega), qL c _ _ _ (by omega), aL, aL]
    have sb : ∀ x : Bool, (x == x) = true := fun x => by simp
    rw [sb, sb, decide_eq_true rfl, decide_eq_true rfl]
    simp only [Bool.not_true, cond_false]
    rw [wg c _ (by omega), zq c _ (by omega), aL, aL, decide_eq_true rfl, wg c _ (by omega), zq c _ (by omega)]
    simp only [Bool.not_true, cond_false, aL, decide_true]
    exact hZ _ ha3.2
  ·obtain ⟨L, A⟩ := s
   have hs : bP (aC.mk L A) := hs
   refine Ok.bnd (uC (g := g) hs (by omega)) fun bt hbt => ?_
   refine Ok.forM (L := [p, g, bt.1]) (fun _ (sg : List Int × Int) => bP (aC.mk sg.1 sg.2)) (fun j y s Z hj hm hI hZ => ?_) _ hbt.2 fun s hs => by rw [mZ]; exact ⟨true, rfl, rfl⟩
   refine Ok.bnd (iD hI (by simp) (by simp)) fun n hn => ?_
   refine Ok.forM (L := [bz, n.1]) (fun _ (_ : Unit) => True) (fun j k s Z2 hj hm _ hZ2 => ?_) () trivial fun s _ => hZ _ hn.2
   simp only [jn]
   rw [aaK, yo, aL, aL, decide_eq_true rfl, yj, aL]
   rw [show sF (ku y k).1 (ku y k).1 = true by simp [sF]]
   exact hZ2 () trivial
 ·simp only [aL]
  refine Ok.cs (fun hc => hJ _ fun h => by cases h) fun hc => hJ _ fun hn => ?_
  simp at hc hn; omega
end Go.Proofs.Ytmfehenfoepkfaa
