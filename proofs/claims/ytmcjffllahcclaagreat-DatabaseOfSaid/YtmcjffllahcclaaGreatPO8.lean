/- Plain: the law DatabaseOf. No condition. -/
import Derived.Test.YtmcjffllahcclaaGreatP8W
import Derived.Test.YtmcjffllahcclaaGreatP8O
import Derived.Test.YtmcjffllahcclaaGreatP2V
import Derived.Test.YtmcjffllahcclaaGreatPA8
import Derived.Test.YtmcjffllahcclaaGreatDLA
namespace Go.Proofs.YtmcjffllahcclaaGreat
set_option linter.all false
open Go

theorem router_in {t : GTape} {g : GTopology} (h : TapeOk t) (hg : 1 ≤ g.Routers.length ∧ g.Routers.length ≤ 1000000) : Ok (m_mk_Tape_Router t g 0) (fun p => p.1 ∈ ids g ∧ TapeOk p.2) := by
  unfold m_mk_Tape_Router
  have e : decide ((g.Routers.length : Int) = 0) = false := by simp; intro h; rw [h] at hg; simp at hg
  simp only [jn, Int.lt_irrefl, decide_false, cond_false, e]
  refine Ok.bnd (next_ok h (by omega)) fun q hq => ?_
  exact Ok.bnd (elO_ok hq.1.1 (hq.1.2.1 (by omega))) fun e he => Ok.s ⟨List.mem_map.2 ⟨e, he.1, rfl⟩, hq.2⟩
theorem db_view_eq {d : GDatabase} (hd : SmD d) {at1 : Int} {T : GTopology} (h : ViewP d at1 T) : m_database_View d at1 = some T := by
  obtain ⟨U, h1, h2⟩ := db_view hd at1
  rw [h1, h2.unique h]
/-- the database of the adverts of all routers -/
structure AllOf (g : GTopology) (d : GDatabase) : Prop where
  v : Vd d
  r : rts d = ids g
  a : ∀ x ∈ d.Adverts, ∃ seq, x = ofA g x.Router seq []
theorem AllOf.lk {g : GTopology} {d : GDatabase} (h : AllOf g d) (hv : Vt g) {a b : Int} : LkD d a b ↔ adjT g a b = true := by
  have key : ∀ x ∈ d.Adverts, ∀ n, (∃ p ∈ x.Links, p.Neighbour = n) ↔ adjT g x.Router n = true := fun x hx n => by
    obtain ⟨seq, e⟩ := h.a x hx
    have el : x.Links = (nearL g x.Router).map (linkR g x.Router) := (congrArg GAdvert.Links e).trans rfl
    rw [el, ← nearL_mem hv]
    constructor
    · rintro ⟨p, hp, rfl⟩
      obtain ⟨m, hm, rfl⟩ := List.mem_map.1 hp
      rw [linkR_n]; exact hm
    · intro hn; exact ⟨_, List.mem_map.2 ⟨n, hn, rfl⟩, linkR_n _ _ _⟩
  have get : ∀ {z}, z ∈ ids g → ∃ x ∈ d.Adverts, x.Router = z := fun {z} hz => by
    rw [← h.r] at hz
    obtain ⟨x, hx, e⟩ := List.mem_map.1 hz
    exact ⟨x, hx, e⟩
  constructor
  · rintro ⟨x, hx, y, hy, rfl, rfl, p, q⟩
    exact (key x hx _).1 p
  · intro hab
    obtain ⟨x, hx, rfl⟩ := get (adj_ids hv (adj_symm hab))
    obtain ⟨y, hy, rfl⟩ := get (adj_ids hv hab)
    exact ⟨x, hx, y, hy, rfl, rfl, (key x hx _).2 hab, (key y hy _).2 (adj_symm hab)⟩
theorem AllOf.rd {g : GTopology} {d : GDatabase} (h : AllOf g d) (hv : Vt g) {a b : Int} : Rd d a b ↔ Cn g [] a b := by
  constructor
  · intro q
    induction q with
    | refl => exact .refl (by simp)
    | step _ hl ih => exact .step ih ((h.lk hv).1 hl) (by simp)
  · intro q
    induction q with
    | refl _ => exact .refl
    | step _ hl _ ih => exact .step ih ((h.lk hv).2 hl)
theorem AllOf.view {g : GTopology} {d : GDatabase} (h : AllOf g d) (hv : Vt g) {at1 : Int} (hat : at1 ∈ ids g) {out : List Int} (ho : ∀ x, x ∈ ids g → (x ∉ out ↔ Cn g [] at1 x)) : ViewP d at1 (woT g (GFailure.mk [] out)) := by
  have hat' := hat
  rw [← h.r] at hat'
  obtain ⟨x0, hx0, e0⟩ := List.mem_map.1 hat'
  have get : ∀ {z}, z ∈ ids g → ∃ x ∈ d.Adverts, x.Router = z := fun {z} hz => by
    rw [← h.r] at hz
    obtain ⟨x, hx, e⟩ := List.mem_map.1 hz
    exact ⟨x, hx, e⟩
  have inI : ∀ x ∈ d.Adverts, x.Router ∈ ids g := fun x hx => by rw [← h.r]; exact List.mem_map.2 ⟨x, hx, rfl⟩
  have hw := hv.wo (GFailure.mk [] out)
  have hgone : ∀ l : GLink, goneB (GFailure.mk [] out) l = (decide (l.A ∈ out) || decide (l.B ∈ out)) := fun l => by simp [goneB, hopB]
  refine .inr ⟨⟨⟨x0, hx0, e0⟩, h.v⟩, woT g (GFailure.mk [] out), ⟨hw.asc, fun r => ?_, hw.ascl, fun l => ?_⟩, by rw [if_pos (vt_iff.2 hw)]⟩
  · show r ∈ g.Routers.filter _ ↔ _
    rw [List.mem_filter]
    simp only [Bool.not_eq_true', decide_eq_false_iff_not]
    constructor
    · rintro ⟨hr, hno⟩
      have hri : r.ID ∈ ids g := List.mem_map.2 ⟨r, hr, rfl⟩
      obtain ⟨a, ha, e⟩ := get hri
      refine ⟨a, ha, (h.rd hv).2 (by rw [e]; exact (ho _ hri).1 hno), ?_⟩
      obtain ⟨seq, ea⟩ := h.a a ha
      have ec : a.Capable = r.Capable := by
        rw [ea]; show capR g a.Router = _; rw [e]; exact capR_eq hv hr
      rw [ec, e]
    · rintro ⟨a, ha, hrd, rfl⟩
      obtain ⟨r, hr, e⟩ := List.mem_map.1 (inI a ha)
      obtain ⟨seq, ea⟩ := h.a a ha
      have ec : a.Capable = r.Capable := by
        rw [ea]; show capR g a.Router = _; rw [← e]; exact capR_eq hv hr
      have : GRouter.mk a.Router a.Capable = r := by rw [ec, ← e]
      rw [this]
      exact ⟨hr, by rw [e]; exact (ho _ (inI a ha)).2 ((h.rd hv).1 hrd)⟩
  · show l ∈ g.Links.filter _ ↔ _
    rw [List.mem_filter]
    simp only [hgone, Bool.not_or, Bool.and_eq_true, Bool.not_eq_true', decide_eq_false_iff_not]
    have lk : ∀ l ∈ g.Links, ∀ x ∈ d.Adverts, ∀ y ∈ d.Adverts, x.Router = l.A → y.Router = l.B → linkR g l.A l.B ∈ x.Links ∧ linkR g l.B l.A ∈ y.Links ∧ l = mkL x (linkR g l.A l.B) y (linkR g l.B l.A) := fun l hl x hx y hy ex ey => by
      have hadj : adjT g l.A l.B = true := adj_iff.2 ⟨l, hl, .inl ⟨rfl, rfl⟩⟩
      obtain ⟨s1, e1⟩ := h.a x hx
      obtain ⟨s2, e2⟩ := h.a y hy
      have l1 : x.Links = (nearL g x.Router).map (linkR g x.Router) := (congrArg GAdvert.Links e1).trans rfl
      have l2 : y.Links = (nearL g y.Router).map (linkR g y.Router) := (congrArg GAdvert.Links e2).trans rfl
      refine ⟨?_, ?_, ?_⟩
      · rw [l1, ex]; exact List.mem_map.2 ⟨l.B, (nearL_mem hv).2 hadj, rfl⟩
      · rw [l2, ey]; exact List.mem_map.2 ⟨l.A, (nearL_mem hv).2 (adj_symm hadj), rfl⟩
      · rw [linkR_A hv hl, linkR_B hv hl]
        simp [mkL, ex, ey]
    constructor
    · rintro ⟨hl, hA, hB⟩
      have hadj : adjT g l.A l.B = true := adj_iff.2 ⟨l, hl, .inl ⟨rfl, rfl⟩⟩
      obtain ⟨x, hx, ex⟩ := get (adj_ids hv (adj_symm hadj))
      obtain ⟨y, hy, ey⟩ := get (adj_ids hv hadj)
      obtain ⟨k1, k2, k3⟩ := lk l hl x hx y hy ex ey
      refine ⟨x, hx, (h.rd hv).2 (by rw [ex]; exact (ho _ (adj_ids hv (adj_symm hadj))).1 hA), y, hy, _, k1, _, k2, by rw [ex, ey]; exact hv.lt l hl, by rw [linkR_n, ey], by rw [linkR_n, ex], k3⟩
    · rintro ⟨x, hx, hrd, y, hy, p, hp, q, hq, hlt, ep, eq, e⟩
      have hadj : adjT g x.Router y.Router = true := (h.lk hv).1 ⟨x, hx, y, hy, rfl, rfl, ⟨p, hp, ep⟩, q, hq, eq⟩
      obtain ⟨l0, hl0, hc⟩ := adj_iff.1 hadj
      have hlt0 := hv.lt l0 hl0
      have eA : x.Router = l0.A := by omega
      have eB : y.Router = l0.B := by omega
      obtain ⟨k1, k2, k3⟩ := lk l0 hl0 x hx y hy eA eB
      have vx := va_of (h.v.ok x hx)
      have vy := va_of (h.v.ok y hy)
      have e1 : p = linkR g l0.A l0.B := vx.uniq hp k1 (by rw [ep, linkR_n, eB])
      have e2 : q = linkR g l0.B l0.A := vy.uniq hq k2 (by rw [eq, linkR_n, eA])
      have el : l = l0 := by rw [e, e1, e2, ← k3]
      subst el
      have cx := (h.rd hv).1 hrd
      refine ⟨hl0, ?_, ?_⟩
      · rw [← eA]; exact (ho _ (inI x hx)).2 cx
      · rw [← eB]; exact (ho _ (inI y hy)).2 (.step cx hadj (by simp))
theorem plain_DatabaseOf (t : List Int) : m_law08_DatabaseOf t = some true := by
  refine Ok.eq ?_
  unfold m_law08_DatabaseOf
  refine Ok.bnd (new_ok t) fun s hs => ?_
  refine Ok.bnd (mixed_valid hs (by omega)) fun g hg => ?_
  obtain ⟨⟨hv, hn, _⟩, ht⟩ := hg
  refine Ok.forL (fun P (sg : List GAdvert × List Int × Int) => (sg.1.map (·.Router) = P.map (·.ID) ∧ Vd (GDatabase.mk sg.1) ∧ ∀ x ∈ sg.1, ∃ seq, x = ofA g.1 x.Router seq []) ∧ TapeOk (GTape.mk sg.2.1 sg.2.2)) ?_ _ ⟨⟨rfl, ⟨by simp, by simp, by simp⟩, by simp⟩, ht⟩ ?_
  · rintro P r rest ⟨m, L, At⟩ Z hL ⟨⟨i1, i2, i3⟩, htp⟩ hZ
    simp only at i1 i2 i3 htp ⊢
    have hr : r ∈ g.1.Routers := by rw [hL]; simp
    have hri : r.ID ∈ ids g.1 := List.mem_map.2 ⟨r, hr, rfl⟩
    refine Ok.bnd (next_ok htp (by omega)) fun q hq => ?_
    have hq5 := hq.1.2.1 (by omega)
    have hq0 := hq.1.1
    have hval : validB (ofA g.1 r.ID (w64 (1 + q.1)) []) = true := by
      rw [ofA_valid hv hri, w64_id (by omega) (by omega)]
      simp [inB, ascC, adjB]; omega
    rw [ref07_of hv hri, hval, bnd_s]
    simp only [cond_true, decide_true, Bool.not_true, cond_false]
    generalize ha : ofA g.1 r.ID (w64 (1 + q.1)) [] = a at hval
    have har : a.Router = r.ID := by rw [← ha]; rfl
    have hlt : ∀ x ∈ m, x.Router < r.ID := fun x hx => by
      have : x.Router ∈ P.map (·.ID) := by rw [← i1]; exact List.mem_map.2 ⟨x, hx, rfl⟩
      obtain ⟨y, hy, e⟩ := List.mem_map.1 this
      have hp := hv.asc
      rw [hL] at hp
      have := (List.pairwise_append.1 hp).2.2 y hy r (by simp)
      omega
    have hno : (findA (GDatabase.mk m) a.Router).2 = false := by
      rcases find_cases (GDatabase.mk m) a.Router with ⟨b, hb, he, _⟩ | ⟨_, hf⟩
      · have := hlt b hb; omega
      · rw [hf]
    rw [db_Put_no i2 (Va.sm hval) hval hno, bnd_s]
    have hw : (withT (GDatabase.mk m) a).Adverts = m ++ [a] := by
      show ltR a.Router m ++ a :: gtR a.Router m = _
      rw [ltR_all (fun x hx => by have := hlt x hx; omega), gtR_none (fun x hx => by have := hlt x hx; omega)]
    refine hZ _ ⟨⟨?_, ?_, ?_⟩, hq.2⟩
    · simp only [hw, List.map_append, i1, List.map_cons, List.map_nil, har]
    · exact i2.with hval
    · simp only [hw]; intro x hx
      rcases List.mem_append.1 hx with hx | hx
      · exact i3 x hx
      · simp only [List.mem_singleton] at hx; subst hx
        exact ⟨w64 (1 + q.1), by rw [har]; exact ha.symm⟩
  · rintro ⟨m, L, At⟩ ⟨⟨i1, i2, i3⟩, htp⟩
    simp only at i1 i2 i3 htp ⊢
    refine Ok.cs (fun hc => by simp at hc; rw [hc] at hn; simp at hn) fun _ => ?_
    refine Ok.bnd (router_in htp (by omega)) fun q hq => ?_
    rw [ref_around hv hq.1, bnd_s]
    have hA : AllOf g.1 (GDatabase.mk m) := ⟨i2, i1, i3⟩
    refine (Ok.forL (fun P (o : List Int) => o = (P.map (·.ID)).filter (fun x => !decide (x ∈ compL g.1 [] q.1))) ?_ _ rfl ?_)
    · rintro P r rest o Z hL rfl hZ
      have hlen : P.length < g.1.Routers.length := by rw [hL]; simp
      have hol : ((P.map (·.ID)).filter (fun x => !decide (x ∈ compL g.1 [] q.1))).length ≤ P.length := Nat.le_trans (List.length_filter_le _ _) (by simp)
      simp only [jn, has_int, bnd_s]
      refine Ok.cs (fun hc => ?_) fun hc => ?_
      · rw [appO_ok (by simp only [List.length_cons, List.length_nil]; omega), bnd_s]
        refine hZ _ ?_
        rw [List.map_append, List.filter_append, List.map_cons, List.map_nil, List.filter_cons, hc]; simp
      · refine hZ _ ?_
        rw [List.map_append, List.filter_append, List.map_cons, List.map_nil, List.filter_cons, hc]; simp
    · rintro o rfl
      have hview := hA.view hv hq.1 (out := (g.1.Routers.map (·.ID)).filter (fun x => !decide (x ∈ compL g.1 [] q.1))) fun x hx => by
        rw [← compL_mem hv hq.1, List.mem_filter]
        simp only [Bool.not_eq_true', decide_eq_false_iff_not, not_and, Classical.not_not]
        exact ⟨fun h => h hx, fun h _ => h⟩
      rw [db_view_eq i2.sm hview, ref_without]
      unfold withoutT
      rw [if_pos (vt_iff.2 hv)]
      simp only [bnd_s, same_self, cond_true, awake8]
      exact Ok.s rfl
end Go.Proofs.YtmcjffllahcclaaGreat
