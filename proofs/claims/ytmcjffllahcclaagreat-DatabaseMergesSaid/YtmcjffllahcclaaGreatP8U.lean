/- Plain: newer adverts, Put, by both. No condition but those that stand in each. -/
import Derived.Test.YtmcjffllahcclaaGreatP8S
import Derived.Test.YtmcjffllahcclaaGreatDA
import Derived.Lib.Strings
namespace Go.Proofs.YtmcjffllahcclaaGreat
set_option linter.all false
open Go

def bytesU (l : List Int) : List UInt8 := l.map fun n => UInt8.ofNat n.toNat
def encA (a : GAdvert) : List Int := match m_advert_Encode a with | some p => p.1 | none => []
def verA (a b : GAdvert) : Bool := decide (b.Seq < a.Seq) || (decide (a.Seq = b.Seq) && decide (0 < cmpU (bytesU (encA a)) (bytesU (encA b))))
def newerA (a b : GAdvert) : Bool := validB a && (validB b && (decide (a.Router = b.Router) && verA a b))
theorem encA_ad {a : GAdvert} (h : validB a = true) : m_advert_Encode a = some (encA a, 0) := by
  obtain ⟨l, h1, h2⟩ := enc_both h
  unfold encA; rw [h1]
theorem encA_ref {a : GAdvert} (h : validB a = true) : m_ref07_Encode a = some (encA a, 0) := by
  obtain ⟨l, h1, h2⟩ := enc_both h
  unfold encA; rw [h1, h2]
theorem sCmp_gtr (x y : List Int) : sCmp .gtr (bstr x) (bstr y) = decide (0 < cmpU (bytesU x) (bytesU y)) := by
  show (!(Go.Op.bytesLess (bstr x).toList (bstr y).toList || (bstr x).toList == (bstr y).toList)) = _
  rw [Lib.toList_data, Lib.toList_data]
  exact less_cmpU (bytesU x) (bytesU y)
theorem cmpB_eq (x y : List Int) : cmpB x y = cmpU (bytesU x) (bytesU y) := cmp_cmpU _ _
theorem ref07_newer (a b : GAdvert) : m_ref07_Newer a b = some (newerA a b) := by
  unfold m_ref07_Newer newerA
  simp only [jn, ref07_valid, bnd_s]
  cases ha : validB a
  · simp
  cases hb : validB b
  · simp
  by_cases hr : a.Router = b.Router
  · simp only [hr, Bool.not_true, cond_false, decide_true, encA_ref ha, encA_ref hb, bnd_s, sCmp_gtr, verA, Bool.true_and]
  · simp [hr]
theorem ad_newer (a b : GAdvert) : m_advert_Newer a b = some (newerA a b) := by
  unfold m_advert_Newer newerA
  have hx : ∀ a, ∃ p, m_advert_Encode a = some p ∧ (validB a = true → p = (encA a, 0)) ∧ (validB a = false → p.2 = 1) := fun a => by
    cases h : validB a
    · refine ⟨([], 1), ?_, fun h => by simp at h, fun _ => rfl⟩
      unfold m_advert_Encode; rw [ad_valid, h]; rfl
    · exact ⟨_, encA_ad h, fun _ => rfl, fun h => by simp at h⟩
  obtain ⟨p, hp, hp1, hp2⟩ := hx a
  obtain ⟨q, hq, hq1, hq2⟩ := hx b
  simp only [hp, hq, bnd_s]
  cases ha : validB a
  · simp [hp2 ha]
  cases hb : validB b
  · simp [hq2 hb]
  rw [hp1 ha, hq1 hb]
  by_cases hr : a.Router = b.Router
  · simp only [hr, decide_true, Bool.not_true, Bool.or_self, cond_false, Bool.true_and, verA]
    by_cases h1 : b.Seq < a.Seq
    · simp [h1]
    · by_cases h2 : a.Seq = b.Seq
      · simp only [h2, decide_true, cond_true, m_bytes_Compare, bnd_s, cmpB_eq]; simp
      · simp [h1, h2]
  · simp [hr]
/-! With -/
def ltR (r : Int) (l : List GAdvert) : List GAdvert := l.filter fun x => decide (x.Router < r)
def gtR (r : Int) (l : List GAdvert) : List GAdvert := l.filter fun x => decide (r < x.Router)
def withT (d : GDatabase) (a : GAdvert) : GDatabase := GDatabase.mk (ltR a.Router d.Adverts ++ a :: gtR a.Router d.Adverts)
theorem ltR_app (r : Int) (l m : List GAdvert) : ltR r (l ++ m) = ltR r l ++ ltR r m := List.filter_append ..
theorem gtR_app (r : Int) (l m : List GAdvert) : gtR r (l ++ m) = gtR r l ++ gtR r m := List.filter_append ..
theorem ltR_all {r : Int} {l : List GAdvert} (h : ∀ x ∈ l, x.Router < r) : ltR r l = l := List.filter_eq_self.2 fun x hx => by simpa using h x hx
theorem ltR_none {r : Int} {l : List GAdvert} (h : ∀ x ∈ l, r ≤ x.Router) : ltR r l = [] := List.filter_eq_nil_iff.2 fun x hx => by simpa using h x hx
theorem gtR_all {r : Int} {l : List GAdvert} (h : ∀ x ∈ l, r < x.Router) : gtR r l = l := List.filter_eq_self.2 fun x hx => by simpa using h x hx
theorem gtR_none {r : Int} {l : List GAdvert} (h : ∀ x ∈ l, x.Router ≤ r) : gtR r l = [] := List.filter_eq_nil_iff.2 fun x hx => by simpa using h x hx
def AscD (d : GDatabase) : Prop := d.Adverts.Pairwise (fun a b => a.Router < b.Router)
theorem ref08_with {d : GDatabase} (hd : AscD d) (hl : d.Adverts.length ≤ 100000) (a : GAdvert) : m_ref08_With d a = some (withT d a) := by
  refine Ok.eq ?_
  unfold m_ref08_With
  refine Ok.forL (fun P (sg : Bool × List GAdvert) => (sg.1 = false → (∀ x ∈ P, x.Router < a.Router) ∧ sg.2 = P) ∧ (sg.1 = true → (∃ x ∈ P, a.Router ≤ x.Router) ∧ sg.2 = ltR a.Router P ++ a :: gtR a.Router P) ∧ sg.2.length ≤ P.length + 1) ?_ _ ⟨fun _ => ⟨by simp, rfl⟩, fun h => by simp at h, by simp⟩ ?_
  · rintro P e rest ⟨dn, m⟩ Z hL ⟨h1, h2, h3⟩ hZ
    simp only at h1 h2 h3 ⊢
    have hP : P.length < d.Adverts.length := by rw [hL]; simp
    have hasc : ∀ x ∈ P, x.Router < e.Router := fun x hx => by
      have := hd; unfold AscD at this; rw [hL] at this
      exact (List.pairwise_append.1 this).2.2 x hx e (by simp)
    simp only [jn]
    cases hdn : dn
    · obtain ⟨g1, rfl⟩ := h1 hdn
      subst hdn
      by_cases hr : a.Router ≤ e.Router
      · simp only [hr, decide_true, Bool.not_false, Bool.and_self, cond_true]
        rw [appO_ok (by simp; omega), bnd_s]
        by_cases he : e.Router = a.Router
        · simp only [he, decide_true, Bool.not_true, cond_false]
          refine hZ _ ⟨fun h => by simp at h, fun _ => ⟨⟨e, by simp, hr⟩, ?_⟩, by simp <;> omega⟩
          rw [ltR_app, gtR_app, ltR_all g1, gtR_none (l := m) (fun x hx => by have := g1 x hx; omega), ltR_none (l := [e]) (by simp; omega), gtR_none (l := [e]) (by simp; omega)]
          simp
        · simp only [he, decide_false, Bool.not_false, cond_true]
          rw [appO_ok (by simp; omega), bnd_s]
          refine hZ _ ⟨fun h => by simp at h, fun _ => ⟨⟨e, by simp, hr⟩, ?_⟩, by simp <;> omega⟩
          rw [ltR_app, gtR_app, ltR_all g1, gtR_none (l := m) (fun x hx => by have := g1 x hx; omega), ltR_none (l := [e]) (by simp; omega), gtR_all (l := [e]) (by simp; omega)]
          simp
      · have he : e.Router ≠ a.Router := by omega
        simp only [hr, decide_false, Bool.and_false, cond_false, he, Bool.not_false, cond_true]
        rw [appO_ok (by simp; omega), bnd_s]
        refine hZ _ ⟨fun _ => ⟨?_, rfl⟩, fun h => by simp at h, by simp <;> omega⟩
        intro x hx
        rcases List.mem_append.1 hx with hx | hx
        · exact g1 x hx
        · simp at hx; subst hx; omega
    · subst hdn
      obtain ⟨⟨x, hx, hxr⟩, hm⟩ := h2 rfl
      have her : a.Router < e.Router := by have := hasc x hx; omega
      have he : e.Router ≠ a.Router := by omega
      simp only [Bool.not_true, Bool.false_and, cond_false, he, decide_false, Bool.not_false, cond_true]
      rw [appO_ok (by simp; omega), bnd_s]
      refine hZ _ ⟨fun h => by simp at h, fun _ => ⟨⟨x, by simp [hx], hxr⟩, ?_⟩, by simp <;> omega⟩
      rw [ltR_app, gtR_app, ltR_none (l := [e]) (by simp; omega), gtR_all (l := [e]) (by simp; omega), hm]
      simp
  · rintro ⟨dn, m⟩ ⟨h1, h2, h3⟩
    simp only at h1 h2 h3 ⊢
    simp only [jn]
    unfold withT
    cases dn
    · obtain ⟨g1, rfl⟩ := h1 rfl
      simp only [Bool.not_false, cond_true]
      rw [appO_ok (by simp; omega), bnd_s]
      exact Ok.s (by rw [ltR_all g1, gtR_none (fun x hx => by have := g1 x hx; omega)])
    · obtain ⟨_, hm⟩ := h2 rfl
      exact Ok.s (by rw [hm])
/-! Put -/
def putT (d : GDatabase) (a : GAdvert) : GDatabase × Bool :=
  bif (findA d a.Router).2 && !newerA a (findA d a.Router).1 then (d, false) else (withT d a, true)
theorem ref08_put (d : GDatabase) (a : GAdvert) : m_ref08_Put d a = some (if dbC d = 0 ∧ validB a = true then putT d a else (d, false)) := by
  unfold m_ref08_Put
  simp only [jn, ref08_check, ref07_valid, ref08_find, bnd_s]
  by_cases h : dbC d = 0
  · cases hv : validB a
    · simp [h]
    · have hd := vd_iff.1 h
      simp only [h, decide_true, Bool.not_true, cond_false, and_self, if_true, putT]
      cases hf : (findA d a.Router).2
      · simp only [cond_false, Bool.false_and]
        rw [ref08_with hd.asc (by have := hd.n; omega), bnd_s]
      · simp only [cond_true, ref07_newer, bnd_s, Bool.true_and]
        cases newerA a (findA d a.Router).1
        · rfl
        · simp only [Bool.not_true, cond_false]
          rw [ref08_with hd.asc (by have := hd.n; omega), bnd_s]
  · simp [h]
theorem bsAd (l : List GAdvert) (x : Int) (c : GAdvert → Int → Option Int) (f : GAdvert → Int) (hl : l.length ≤ 1000000) (hc : ∀ r, c r x = some (f r)) : m_slices_BinarySearchFunc_Lapi_Advert_api_Advert_int l x c = some ((bsR f l : Int), bsT f l) := by
  unfold m_slices_BinarySearchFunc_Lapi_Advert_api_Advert_int
  refine bs_loop l f hl fun i j Z hj => ?_
  by_cases hij : i < j
  · rw [dif_pos hij]
    simp only [half_eq (i := i) (j := j) (by omega), elO_el (show (i + j) / 2 < l.length by omega), bnd_s, hc, cond_d]
    rw [if_pos (by omega), w64_id (by omega) (by omega)]
    rfl
  · rw [dif_neg hij]
    simp only [cond_d]
    rw [if_neg (by omega)]
    by_cases hi : i < l.length
    · rw [if_pos (by omega), elO_el hi]; simp only [bnd_s, hc]; simp [hi]
    · rw [if_neg (by omega)]; simp [hi]
theorem db_put1 (x : GAdvert) (r : Int) : m_database_put_1 x r = some (cmpI x.Router r) := by
  unfold m_database_put_1; rw [cmp_int, bnd_s]
theorem cmpI_sgn (x y : Int) : (cmpI x y < 0 ↔ x < y) ∧ (cmpI x y = 0 ↔ x = y) := by
  unfold cmpI; split
  · exact ⟨by omega, by omega⟩
  · split
    · exact ⟨by omega, by omega⟩
    · exact ⟨by omega, by omega⟩
theorem mono_ad {d : GDatabase} (hd : AscD d) (r : Int) : ∀ a b : Nat, a ≤ b → b < d.Adverts.length → cmpI (el d.Adverts a).Router r ≤ cmpI (el d.Adverts b).Router r :=
  mono_of_pairwise (f := fun x : GAdvert => cmpI x.Router r) (hd.imp fun h => by
    unfold cmpI; split <;> split <;> (try split) <;> (try split) <;> omega)
/-- the place of a router -/
theorem place_ad {d : GDatabase} (hd : AscD d) (r : Int) : d.Adverts.take (bsR (fun x : GAdvert => cmpI x.Router r) d.Adverts) = ltR r d.Adverts ∧
    (bsT (fun x : GAdvert => cmpI x.Router r) d.Adverts = (findA d r).2) ∧ bsR (fun x : GAdvert => cmpI x.Router r) d.Adverts ≤ d.Adverts.length ∧
    ((findA d r).2 = false → d.Adverts.drop (bsR (fun x : GAdvert => cmpI x.Router r) d.Adverts) = gtR r d.Adverts) ∧
    ((findA d r).2 = true → d.Adverts.drop (bsR (fun x : GAdvert => cmpI x.Router r) d.Adverts) = (findA d r).1 :: gtR r d.Adverts) := by
  obtain ⟨h1, h2, h3⟩ := bsR_spec (f := fun x : GAdvert => cmpI x.Router r) (mono_ad hd r)
  have hT := bsT_iff (f := fun x : GAdvert => cmpI x.Router r) (mono_ad hd r)
  generalize bsR (fun x : GAdvert => cmpI x.Router r) d.Adverts = n at h1 h2 h3 ⊢
  have ht : ∀ x ∈ d.Adverts.take n, x.Router < r := fun x hx => by
    obtain ⟨i, hi, rfl⟩ := List.getElem_of_mem hx
    rw [List.length_take] at hi
    have := h2 i (by omega)
    rw [el_nat (by omega)] at this
    rw [List.getElem_take]
    exact (cmpI_sgn _ _).1.1 this
  have hg : ∀ x ∈ d.Adverts.drop n, r ≤ x.Router := fun x hx => by
    obtain ⟨i, hi, rfl⟩ := List.getElem_of_mem hx
    rw [List.length_drop] at hi
    have := h3 (n + i) (by omega) (by omega)
    rw [el_nat (by omega)] at this
    rw [List.getElem_drop]
    have q := (cmpI_sgn (d.Adverts[n + i]).Router r).1
    have q2 : ¬ cmpI (d.Adverts[n + i]).Router r < 0 := by omega
    rw [q] at q2; omega
  have hs := List.take_append_drop n d.Adverts
  have e1 : ltR r d.Adverts = d.Adverts.take n := by
    conv => lhs; rw [← hs]
    rw [ltR_app, ltR_all ht, ltR_none hg, List.append_nil]
  have e2 : gtR r d.Adverts = gtR r (d.Adverts.drop n) := by
    conv => lhs; rw [← hs]
    rw [gtR_app, gtR_none (l := d.Adverts.take n) (fun x hx => by have := ht x hx; omega), List.nil_append]
  have e3 : bsT (fun x : GAdvert => cmpI x.Router r) d.Adverts = (findA d r).2 := by
    rw [Bool.eq_iff_iff, hT]
    simp only [(cmpI_sgn _ _).2]
    rcases find_cases d r with ⟨a, ha, he, hf⟩ | ⟨hn, hf⟩
    · rw [hf]; exact ⟨fun _ => rfl, fun _ => ⟨a, ha, he⟩⟩
    · rw [hf]; exact ⟨fun ⟨a, ha, he⟩ => absurd he (hn a ha), fun h => by simp at h⟩
  refine ⟨e1.symm, e3, h1, fun hf => ?_, fun hf => ?_⟩
  · rw [e2, gtR_all]
    intro x hx
    rcases find_cases d r with ⟨a, ha, he, hf2⟩ | ⟨hn, hf2⟩
    · rw [hf2] at hf; simp at hf
    · have := hg x hx; have := hn x (List.mem_of_mem_drop hx); omega
  · rcases find_cases d r with ⟨a, ha, he, hf2⟩ | ⟨hn, hf2⟩
    · rw [hf2, e2]
      have hmem : a ∈ d.Adverts.drop n := by
        have : a ∈ d.Adverts.take n ++ d.Adverts.drop n := by rw [hs]; exact ha
        rcases List.mem_append.1 this with q | q
        · have := ht a q; omega
        · exact q
      have hp : (d.Adverts.drop n).Pairwise (fun a b => a.Router < b.Router) := List.Pairwise.sublist (List.drop_sublist n _) hd
      cases hD : d.Adverts.drop n with
      | nil => rw [hD] at hmem; simp at hmem
      | cons y t =>
        rw [hD] at hp hmem hg
        rw [List.pairwise_cons] at hp
        rcases List.mem_cons.1 hmem with q | q
        · subst q
          show _ = a :: (a :: t).filter _
          rw [List.filter_cons_of_neg (by simp [he])]
          congr 1
          exact (List.filter_eq_self.2 fun x hx => by have := hp.1 x hx; simp; omega).symm
        · have := hp.1 a q; have := hg y (by simp); omega
    · rw [hf2] at hf; simp at hf
theorem db_put {d : GDatabase} (hd : AscD d) (hl : d.Adverts.length ≤ 100000) {a : GAdvert} (ha : SmA a) : m_database_put d a = some ((putT d a).2, (putT d a).1) := by
  unfold m_database_put
  rw [bsAd d.Adverts a.Router _ (fun x => cmpI x.Router a.Router) (by omega) (fun x => db_put1 x _), bnd_s]
  obtain ⟨p1, p2, p3, p4, p5⟩ := place_ad hd a.Router
  simp only [jn, p2]
  generalize bsR (fun x : GAdvert => cmpI x.Router a.Router) d.Adverts = n at *
  unfold putT withT
  cases hf : (findA d a.Router).2
  · simp only [Bool.not_false, cond_true, Bool.false_and, cond_false, db_copied ha, bnd_s]
    have : insO d.Adverts (n : Int) a = some (ltR a.Router d.Adverts ++ a :: gtR a.Router d.Adverts) := by
      unfold insO
      rw [if_pos ⟨⟨by omega, by omega⟩, by unfold cap; omega⟩, Int.toNat_natCast, p1, p4 hf]
    rw [this, bnd_s]
  · have hD := p5 hf
    have hn : n < d.Adverts.length := by
      have := congrArg List.length hD
      rw [List.length_drop, List.length_cons] at this; omega
    have he : d.Adverts[n] = (findA d a.Router).1 := by
      rw [List.drop_eq_getElem_cons hn] at hD
      exact (List.cons.inj hD).1
    have hel : elO d.Adverts (n : Int) = some (findA d a.Router).1 := by
      rw [← he]; unfold elO; rw [if_pos (by omega)]; simp [hn]
    simp only [Bool.not_true, cond_false, hel, bnd_s, ad_newer, Bool.true_and]
    cases hnw : newerA a (findA d a.Router).1
    · rfl
    · simp only [cond_true, db_copied ha, bnd_s, Bool.not_true, cond_false]
      have : setO d.Adverts (n : Int) a = some (ltR a.Router d.Adverts ++ a :: gtR a.Router d.Adverts) := by
        unfold setO
        rw [if_pos ⟨by omega, by omega⟩, Int.toNat_natCast, List.set_eq_take_append_cons_drop, if_pos hn, p1]
        rw [List.drop_eq_getElem_cons hn] at hD
        rw [(List.cons.inj hD).2]
      rw [this, bnd_s]
theorem db_clone {d : GDatabase} (hd : SmD d) : m_database_clone d = some d := by
  refine Ok.eq ?_
  unfold m_database_clone
  refine Ok.forL (fun P (m : List GAdvert) => m = P) ?_ _ rfl (fun m hm => Ok.s (by rw [hm]))
  rintro P x r m Z hL rfl hZ
  have hx : x ∈ d.Adverts := by rw [hL]; simp
  have hl : m.length < d.Adverts.length := by rw [hL]; simp
  have := hd.1
  rw [db_copied (hd.2 x hx), bnd_s, appO_ok (by simp; omega), bnd_s]
  exact hZ _ rfl
end Go.Proofs.YtmcjffllahcclaaGreat
