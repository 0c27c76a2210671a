/- Plain: the law yP is true. No condition. -/
import Derived.Test.YtdjeacigeegklaaPYO
import Derived.Test.YtdjeacigeegklaaDL0
namespace Go.Proofs.Ytdjeacigeegklaa
set_option linter.all false
open Go
theorem ady {e : aM} {r : Int} {p : aS} (h : p.TTL ≠ 0) : mH e r p = [] := by
 unfold mH
 have : (lJ e r p).mg = 0 := by
  show ((e.List.filter (gn r p)).foldl orA 0) = 0
  rw [show e.List.filter (gn r p) = [] from List.filter_eq_nil_iff.2 fun a _ => by simp [gn, h]]; rfl
 rw [if_pos this]
theorem yQ {e : aM} {r : Int} {p : aS} {a : ah} (h : a ∈ cV e r p) : a ∈ e.List ∧ a.aR = r ∧ tbi p.Bits a.Bit.toNat = true ∧ a.Kind ≠ 3 ∧ p.TTL ≠ 0 ∧ dU e r p ≠ 0 := by
 obtain ⟨h1, h2⟩ := List.mem_filter.1 h
 simp only [eA, kX, Bool.and_eq_true, Bool.not_eq_true', decide_eq_false_iff_not, decide_eq_true_eq] at h2
 exact ⟨h1, h2.1.1.1.1, h2.1.1.1.2, h2.1.1.2, h2.1.2, h2.2⟩
/-- bits of routed wo taken out -/
theorem af0 {e : aM} (hE : Ve e) {β : Type} {Q : β → Prop} {K : Int → Option β} (b0 : Int) (hb : ∀ i : Nat, tbi b0 i = true → (i : Int) < e.Length) (hK : ∀ b, (∀ i : Nat, tbi b i = true → (i : Int) < e.Length) → B64 b ∨ b = b0 → (∀ a ∈ e.List, a.Kind = 2 → tbi b a.Bit.toNat = false) → Ok (K b) Q) :
  Ok (bY e.List 0 (fun (j1 : Int) (e1 : ah) (Z1 : Int → Option β) (m_1 : Int) => jn (fun (m_2 : Int) => Z1 m_2) fun J1 => bif decide (e1.Kind = (2:Int)) then chk (decide (0 ≤ IntKind.wrap .u64 e1.Bit)) <| J1 (bH .andNot .u64 m_1 (IntKind.wrap .u64 ((1:Int) * 2 ^ min (IntKind.wrap .u64 e1.Bit).toNat 64))) else J1 m_1) K b0) Q := by
 refine Ok.vf (L := e.List) (fun p (b : Int) => (∀ i : Nat, tbi b i = true → (i : Int) < e.Length) ∧ (B64 b ∨ b = b0) ∧ ∀ a ∈ p, a.Kind = 2 → tbi b a.Bit.toNat = false) (fun p x r s Z hL hI hZ => ?_) b0 ⟨hb, .inr rfl, by simp⟩ (fun s hs => hK s hs.1 hs.2.1 hs.2.2)
 obtain ⟨i1, i2, i3⟩ := hI
 have hx : x ∈ e.List := by rw [hL]; simp
 have hxb := hE.bit hx
 unfold jn
 refine Ok.cs (fun _ => ?_) fun hk => hZ _ ⟨i1, i2, fun a ha h2 => ?_⟩
 ·have ew : IntKind.wrap .u64 x.Bit = x.Bit := wrap_u64 hxb.1 (by omega)
  rw [ew]
  refine Ok.chk (by simp; omega) (hZ _ ?_)
  rw [vh hxb.1 hxb.2]
  refine ⟨fun i hi => ?_, .inl tQ, fun a ha h2 => ?_⟩
  ·rw [tbn, Bool.and_eq_true] at hi; exact i1 i hi.1
  ·rw [tbn, nU x.Bit.toNat _ (by omega)]
   rcases List.mem_append.1 ha with ha | ha
   ·rw [i3 a ha h2, Bool.false_and]
   ·simp at ha; subst ha; simp
 ·rcases List.mem_append.1 ha with ha | ha
  ·exact i3 a ha h2
  ·simp at ha; subst ha; simp [h2] at hk
theorem tY (t : List Int) : ir t = some true := by
 unfold ir
 refine Ok.eq (Ok.bnd (acm t) fun s hs => Ok.bnd (rF hs (by omega)) fun p hp => ?_)
 obtain ⟨g, t1⟩ := p
 obtain ⟨hg, ht⟩ := hp
 have hv : Vt g := hg.v
 have hnr := hv.nr
 refine Ok.bnd (ya ht hv hg.n.1) fun p hp => ?_
 obtain ⟨e, t2⟩ := p
 obtain ⟨he, ht⟩ := hp
 have he : Ef g e := he
 have hE := he.v
 have hel := hE.small
 refine Ok.bnd (yd (e := e) ht hE) fun q hq => ?_
 obtain ⟨q, t3⟩ := q
 obtain ⟨hq, ht⟩ := hq
 have hq : Pk e q := hq
 have hqb := (nV.1 (j9.1 hq.v).2.2.2.1).2
 rw [hq.l] at hqb
 refine af0 hE q.Bits hqb fun b hb hb2 hb3 => ?_
 have hgn : 1 ≤ g.aC.length := hg.n.1
 refine pF (g := g) ht (by omega) fun a r ha hr hid => ?_
 have hP : Pk e (aS.mk q.Mode q.bQ q.Set q.Length (63:Int) q.cv q.cw q.dx b q.cz) := by
  have h1 := hq.ttl 63 (by omega)
  obtain ⟨a1, a2, a3⟩ := h1
  rw [j9] at a1
  refine ⟨j9.2 ?_, a2, a3⟩
  obtain ⟨c1, c2, c3, c4, c5⟩ := a1
  rw [nV] at c4
  exact ⟨c1, c2, c3, nV.2 ⟨c4.1, fun i hi => by show (i : Int) < q.Length; rw [hq.l]; exact hb i hi⟩, c5⟩
 generalize hPP : aS.mk q.Mode q.bQ q.Set q.Length (63:Int) q.cv q.cw q.dx b q.cz = P at hP
 have hPb : P.Bits = b := by rw [← hPP]
 have hPt : P.TTL = 63 := by rw [← hPP]
 rw [abq hE hv hP hid, bK]
 -- what is so of all aY happens
 have hinv := aaM (e := e) (t := g) (fun q D C L => (∀ v ∈ q, (∀ i, tbi v.bA.Bits i = true → tbi b i = true) ∧ ∃ S : List Int, S.Nodup ∧ (∀ x ∈ S, x ∈ ids g) ∧ (∀ x ∈ S, ∀ a ∈ e.List, a.aR = x → tbi v.bA.Bits a.Bit.toNat = false) ∧ v.bA.TTL = 63 - (S.length : Int)) ∧
   (∀ c ∈ C, c.Bits ≠ 0 ∧ (∀ i, tbi c.Bits i = true → tbi b i = true) ∧ (∀ a ∈ e.List, a.aR = c.nD → tbi c.Bits a.Bit.toNat = false) ∧ ∃ a ∈ e.List, a.aR = c.nD ∧ a.Kind = 1 ∧ a.To = c.To ∧ tbi b a.Bit.toNat = true) ∧
   (∀ d ∈ D, ∃ a ∈ e.List, a.aR = d.aR ∧ a.Kind = 3 ∧ d.aJ.Bits = vl a) ∧ L = []) ?_ 5000 [aB.mk r.ID P] [] [] [] ?_
 ·rcases hinv with h | ⟨D, C, L, h, _, hC, hD, hL⟩
  ·rw [h]
   simp only [pe, bK]
   exact ⟨true, rfl, rfl⟩
  ·rw [h]
   simp only [decide_true, Bool.not_true, cond_false]
   refine Ok.forM (L := C) (fun _ (_ : Unit) => True) (fun j c s Z hj hm _ hZ => ?_) () trivial fun _ _ => ?_
   ·obtain ⟨c1, c2, c3, x, hx, x1, x2, x3, x4⟩ := hC c hm
    have e1 : bH .andNot .u64 c.Bits b = 0 := s5 tQ s6 fun i _ => by
     rw [tbn, jI]
     cases hc : tbi c.Bits i
     ·rfl
     ·rw [c2 i hc]; rfl
    have e2 : bH .and .u64 c.Bits (nH e c.nD) = 0 := s5 acn s6 fun i _ => by
     rw [tba, jI]
     cases hc : tbi (nH e c.nD) i
     ·rw [Bool.and_false]
     ·obtain ⟨y, hy, y1, y2⟩ := (vj hE c.nD i).1 hc
      have := c3 y hy y1
      rw [show y.Bit.toNat = i by omega] at this
      rw [this]; rfl
    have hxb := hE.bit hx
    have hf : qw e c.nD 1 c.To = (x.Bit, true) := by
     have := zA hE hx
     rw [x1, x2, x3] at this; exact this
    simp only [jn]
    rw [decide_eq_false c1, e1, ads e _ (by omega)]
    simp only [cond_false, decide_true, Bool.not_true, bK]
    rw [e2, x9 e _ _ _ (by omega), bK, hf]
    have ew : IntKind.wrap .u64 x.Bit = x.Bit := wrap_u64 hxb.1 (by omega)
    simp only [decide_true, Bool.not_true, cond_false, ew]
    refine Ok.chk (by simp; omega) ?_
    rw [acp _ hxb.1 hxb.2, x4]
    exact hZ () trivial
   ·refine Ok.forM (L := D) (fun _ (_ : Unit) => True) (fun j d s Z hj hm _ hZ => ?_) () trivial fun _ _ => ?_
    ·obtain ⟨x, hx, x1, x2, x3⟩ := hD d hm
     have hxb := hE.bit hx
     have hf : qw e d.aR 3 d.aR = (x.Bit, true) := by
      have hto : x.To = x.aR := ((hE.aoq x hx).2 x2)
      have := zA hE hx
      rw [hto, x1, x2] at this; exact this
     rw [x9 e _ _ _ (by omega), bK, hf]
     have ew : IntKind.wrap .u64 x.Bit = x.Bit := wrap_u64 hxb.1 (by omega)
     simp only [jn, Bool.not_true, cond_false, ew]
     refine Ok.chk (by simp; omega) ?_
     rw [vh hxb.1 hxb.2, x3, decide_eq_true (show vl x = p9 x.Bit.toNat from rfl)]
     exact hZ () trivial
    ·subst hL
     simp only [pe, bK]
     exact ⟨true, rfl, rfl⟩
 ·rintro v q D C L ⟨hQ, hC, hD, hL⟩ hno
  obtain ⟨v1, S, s1, s2, s3, s4⟩ := hQ v (by simp)
  have hSl : S.length ≤ 24 := by
   have := si s1 s2
   have : (ids g).length ≤ 24 := by simpa [ids] using hnr
   omega
  have ht0 : v.bA.TTL ≠ 0 := by omega
  have hok : ∀ a ∈ cV e v.bq v.bA, okA g v.bq a = true ∧ lW g v.bq a = ([a.To], true) ∧ a.Kind = 1 := fun a ha => by
   obtain ⟨q1, q2, q3, q4, q5, q6⟩ := yQ ha
   have hk2 : a.Kind ≠ 2 := fun h => by
    have := hb3 a q1 h
    rw [v1 _ q3] at this; cases this
   rcases (he.ok a q1).k with ⟨h, _⟩ | ⟨h, h2⟩ | ⟨h, _⟩
   ·exact absurd h q4
   ·have hw : lW g v.bq a = ([a.To], true) := by unfold lW; rw [if_neg hk2, ← q2, h2]
    exact ⟨by unfold okA; rw [hw], hw, h⟩
   ·exact absurd h hk2
  have aoy : (cV e v.bq v.bA).filter (okA g v.bq) = cV e v.bq v.bA := List.filter_eq_self.2 fun a ha => (hok a ha).1
  refine ⟨fun u hu => ?_, fun c hc => ?_, fun d hd => ?_, ?_⟩
  ·rcases List.mem_append.1 hu with hu | hu
   ·exact hQ u (by simp [hu])
   ·unfold kY lX at hu
    rw [aoy] at hu
    obtain ⟨a, ha, rfl⟩ := List.mem_map.1 hu
    obtain ⟨q1, q2, q3, q4, q5, q6⟩ := yQ ha
    refine ⟨fun i hi => v1 i (xy hi), v.bq :: S, ?_, ?_, ?_, ?_⟩
    ·rw [List.nodup_cons]
     refine ⟨fun h => ?_, s1⟩
     have := s3 _ h a q1 q2
     rw [q3] at this; cases this
    ·intro x hx
     rcases List.mem_cons.1 hx with rfl | hx
     ·rw [← q2]; exact (he.ok a q1).r
     ·exact s2 x hx
    ·intro x hx y hy hyr
     show tbi (dU e v.bq v.bA) y.Bit.toNat = false
     rw [dU, tbn]
     rcases List.mem_cons.1 hx with rfl | hx
     ·have hb2 := hE.bit hy
      rw [(vj hE v.bq y.Bit.toNat).2 ⟨y, hy, hyr, by omega⟩]; simp
     ·rw [s3 x hx y hy hyr, Bool.false_and]
    ·show w64 (v.bA.TTL - 1) = _
     rw [gH (by omega) (by omega), List.length_cons]; omega
  ·rcases List.mem_append.1 hc with hc | hc
   ·exact hC c hc
   ·unfold jc iT at hc
    rw [aoy] at hc
    obtain ⟨a, ha, hc⟩ := List.mem_flatMap.1 hc
    rw [(hok a ha).2.1] at hc
    simp only [iI, List.mem_singleton] at hc
    subst hc
    obtain ⟨q1, q2, q3, q4, q5, q6⟩ := yQ ha
    refine ⟨q6, fun i hi => v1 i (xy hi), fun y hy hyr => ?_, a, q1, q2, (hok a ha).2.2, rfl, v1 _ q3⟩
    show tbi (dU e v.bq v.bA) y.Bit.toNat = false
    have hb2 := hE.bit hy
    rw [dU, tbn, (vj hE v.bq y.Bit.toNat).2 ⟨y, hy, hyr, by omega⟩]; simp
  ·rcases List.mem_append.1 hd with hd | hd
   ·exact hD d hd
   ·obtain ⟨a, ha, rfl⟩ := List.mem_map.1 hd
    obtain ⟨q1, q2⟩ := List.mem_filter.1 ha
    obtain ⟨q3, q4, q5⟩ := abn (e := e) q2
    exact ⟨a, q1, q3, q5, rfl⟩
  ·unfold pg newL
   rw [hL, ady ht0, show (cV e v.bq v.bA).filter (fun a => !okA g v.bq a) = [] from List.filter_eq_nil_iff.2 fun a ha => by simp [(hok a ha).1]]
   rfl
 ·refine ⟨fun v hv2 => ?_, by simp, by simp, rfl⟩
  simp at hv2; subst hv2
  exact ⟨fun i hi => by rw [← hPb]; exact hi, [], by simp, by simp, by simp, by simpa using hPt⟩
end Go.Proofs.Ytdjeacigeegklaa
