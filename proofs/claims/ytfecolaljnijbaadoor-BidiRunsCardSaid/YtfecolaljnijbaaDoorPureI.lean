/- The stretches of one level and the order. No program and no memory stands here. -/
import Derived.Test.YtfecolaljnijbaaDoorPureH
set_option linter.unusedVariables false
set_option linter.unusedSimpArgs false
namespace Go.Proofs.YtfecolaljnijbaaDoor.Pure
open Go.RowKit Go.Lib Go.Proofs.YtfecolaljnijbaaDoor.C Go.Proofs.YtfecolaljnijbaaDoorW.PrintWords Go.Proofs.YtfecolaljnijbaaDoor.Utf

theorem rra_flat {α : Type} (q : Int → Bool) (Q : α → Bool) (h : α → List Int) : ∀ (ss acc : List α), (∀ s ∈ ss, h s ≠ [] ∧ ∀ x ∈ h s, q x = Q s) → (∀ s ∈ acc, Q s = true) →
    rra q ((acc.map fun s => (h s).reverse).flatten) ((ss.map h).flatten) = ((rra Q acc ss).map (fun s => if Q s = true then (h s).reverse else h s)).flatten
  | [], acc, h1, h2 => by
    simp only [List.map_nil, List.flatten_nil, rra]
    congr 1
    apply List.map_congr_left
    intro s hs
    rw [if_pos (h2 s hs)]
  | s :: ss, acc, h1, h2 => by
    obtain ⟨hne, hx⟩ := h1 s (by simp)
    have h1' : ∀ t ∈ ss, h t ≠ [] ∧ ∀ x ∈ h t, q x = Q t := fun t ht => h1 t (by simp [ht])
    simp only [List.map_cons, List.flatten_cons, rra]
    by_cases c : Q s = true
    · rw [if_pos c, rra_acc q _ _ _ (fun x hx2 => (hx x hx2).trans c), ← rra_flat q Q h ss (s :: acc) h1' (by simpa [c] using h2)]
      simp
    · have cf := Bool.eq_false_iff.mpr c
      rw [if_neg c, rra_stop q _ _ (fun x hx2 => by
        obtain ⟨y, l, e⟩ := List.exists_cons_of_ne_nil hne
        rw [e] at hx2
        simp only [List.cons_append, List.head?_cons, Option.some.injEq] at hx2
        subst hx2
        rw [hx y (by rw [e]; simp), cf]), rra_pre q _ _ (fun x hx2 => (hx x hx2).trans cf)]
      have ih := rra_flat q Q h ss [] h1' (by simp)
      simp only [List.map_nil, List.flatten_nil] at ih
      rw [ih, List.map_append, List.flatten_append, List.map_cons, List.flatten_cons, if_neg c]
      congr 2
      apply List.map_congr_left
      intro t ht
      rw [if_pos (h2 t ht)]
/-- The places of a stretch. -/
def rng (s : S38) : List Int := (List.range (s.f1 - s.f0).toNat).map (fun i : Nat => s.f0 + (i : Int))
theorem mem_rng {s : S38} {x : Int} : x ∈ rng s ↔ s.f0 ≤ x ∧ x < s.f1 := by
  simp only [rng, List.mem_map, List.mem_range]
  constructor
  · rintro ⟨i, hi, rfl⟩; omega
  · rintro ⟨h1, h2⟩; exact ⟨(x - s.f0).toNat, by omega, by omega⟩
theorem rng_len (s : S38) : (rng s).length = (s.f1 - s.f0).toNat := by simp [rng]
def cover : Int → List S38 → Int → Prop
  | a, [], e => a = e
  | a, s :: ss, e => s.f0 = a ∧ s.f0 < s.f1 ∧ cover s.f1 ss e
theorem cover_le : ∀ {ss : List S38} {a e : Int}, cover a ss e → a ≤ e
  | [], a, e, h => Int.le_of_eq h
  | s :: ss, a, e, ⟨h1, h2, h3⟩ => by have := cover_le h3; omega
theorem cover_snoc : ∀ {ss : List S38} {t : S38} {a e : Int}, cover a (ss ++ [t]) e ↔ cover a ss t.f0 ∧ t.f0 < t.f1 ∧ t.f1 = e
  | [], t, a, e => by
    simp only [List.nil_append, cover]
    constructor
    · rintro ⟨h1, h2, h3⟩; exact ⟨h1.symm, h2, h3⟩
    · rintro ⟨h1, h2, h3⟩; exact ⟨h1.symm, h2, h3⟩
  | s :: ss, t, a, e => by
    simp only [List.cons_append, cover, cover_snoc (ss := ss)]
    constructor
    · rintro ⟨h1, h2, h3, h4, h5⟩; exact ⟨⟨h1, h2, h3⟩, h4, h5⟩
    · rintro ⟨⟨h1, h2, h3⟩, h4, h5⟩; exact ⟨h1, h2, h3, h4, h5⟩
theorem cover_mem : ∀ {ss : List S38} {a e : Int}, cover a ss e → ∀ s ∈ ss, a ≤ s.f0 ∧ s.f0 < s.f1 ∧ s.f1 ≤ e
  | s :: ss, a, e, ⟨h1, h2, h3⟩, t, ht => by
    have hl := cover_le h3
    rcases List.mem_cons.1 ht with rfl | ht
    · exact ⟨by omega, h2, hl⟩
    · have := cover_mem h3 t ht; exact ⟨by omega, this.2.1, this.2.2⟩
theorem cover_nodup : ∀ {ss : List S38} {a e : Int}, cover a ss e → ss.Nodup
  | [], a, e, h => List.nodup_nil
  | s :: ss, a, e, ⟨h1, h2, h3⟩ => List.nodup_cons.2 ⟨fun hm => by have := cover_mem h3 s hm; omega, cover_nodup h3⟩
theorem cover_flat : ∀ {ss : List S38} {a e : Int}, cover a ss e → (ss.map rng).flatten = rng ⟨a, e⟩
  | [], a, e, h => by
    obtain rfl : a = e := h
    simp [rng]
  | s :: ss, a, e, ⟨h1, h2, h3⟩ => by
    have hl := cover_le h3
    rw [List.map_cons, List.flatten_cons, cover_flat h3]
    apply list_ext
    · rw [List.length_append, rng_len, rng_len, rng_len]; simp only; omega
    · intro j hj
      rw [List.length_append, rng_len, rng_len] at hj
      have g : ∀ (t : S38) (i : Nat), i < (t.f1 - t.f0).toNat → (rng t).getD i 0 = t.f0 + (i : Int) := fun t i hi => by simp [rng, List.getD, hi]
      simp only at hj
      rw [g ⟨a, e⟩ j (by simp only; omega)]
      by_cases c : j < (rng s).length
      · have e1 : (rng s ++ rng ⟨s.f1, e⟩).getD j 0 = (rng s).getD j 0 := by simp only [List.getD]; rw [List.getElem?_append_left c]
        rw [e1, g s j (by rw [← rng_len]; exact c), h1]
      · have e1 : (rng s ++ rng ⟨s.f1, e⟩).getD j 0 = (rng ⟨s.f1, e⟩).getD (j - (rng s).length) 0 := by simp only [List.getD]; rw [List.getElem?_append_right (by omega)]
        rw [rng_len] at c e1
        rw [e1, g _ _ (by simp only; omega)]
        simp only
        omega
/-- The stretches of one level. -/
structure Sts (L : List Int) (n : Int) (ss : List S38) : Prop where
  cov : cover 0 ss n
  same : ∀ s ∈ ss, ∀ j, s.f0 ≤ j → j < s.f1 → rd L j = rd L s.f0
  diff : ∀ s ∈ ss, 0 < s.f0 → rd L (s.f0 - 1) ≠ rd L s.f0
def Qs (L : List Int) (n : Int) (s : S38) : Bool := decide (rd L s.f0 ≥ n)
theorem two_alone (L : List Int) : ∀ (ss : List S38) (a e : Int), 0 ≤ a → cover a ss e → (∀ s ∈ ss, rd L s.f0 ≤ 2) → (∀ s ∈ ss, ∀ j, s.f0 ≤ j → j < s.f1 → rd L j = rd L s.f0) → (∀ s ∈ ss, 0 < s.f0 → rd L (s.f0 - 1) ≠ rd L s.f0) →
    rra (Qs L 2) [] ss = ss ∧ ∀ s : S38, 0 ≤ s.f0 → rd L s.f0 = 2 → s.f1 = a → s.f0 < s.f1 → rd L (s.f1 - 1) = 2 → rra (Qs L 2) [s] ss = s :: ss
  | [], a, e, h0, h1, h2, h3, h4 => ⟨rfl, fun s _ _ _ _ _ => rfl⟩
  | t :: ts, a, e, h0, ⟨k1, k2, k3⟩, h2, h3, h4 => by
    obtain ⟨i1, i2⟩ := two_alone L ts t.f1 e (by omega) k3 (fun s hs => h2 s (by simp [hs])) (fun s hs => h3 s (by simp [hs])) (fun s hs => h4 s (by simp [hs]))
    have hl := h2 t (by simp)
    constructor
    · simp only [rra]
      by_cases c : Qs L 2 t = true
      · rw [if_pos c]
        have hv : rd L t.f0 = 2 := by simp [Qs] at c; omega
        exact i2 t (by omega) hv rfl k2 (by rw [h3 t (by simp) _ (by omega) (by omega)]; exact hv)
      · rw [if_neg c, i1]; rfl
    · intro s s0 s1 s2 s3 s4
      have hd := h4 t (by simp) (by omega)
      rw [show t.f0 - 1 = s.f1 - 1 by omega, s4] at hd
      simp only [rra]
      rw [if_neg (by simp [Qs]; omega), i1]
      rfl
def G (L : List Int) (s : S38) : List Int := if rd L s.f0 = 1 then (rng s).reverse else rng s
theorem rng_ne {s : S38} (h : s.f0 < s.f1) : rng s ≠ [] := by
  intro e
  have := rng_len s
  rw [e] at this
  simp at this
  omega
theorem ord_groups {L : List Int} {ss : List S38} (h : Sts L (L.length : Int) ss) (hL : ∀ x ∈ L, 0 ≤ x ∧ x ≤ 2) : ord L = ((rra (Qs L 1) [] ss).map (G L)).flatten := by
  have hm := cover_mem h.cov
  have hlv : ∀ s ∈ ss, 0 ≤ rd L s.f0 ∧ rd L s.f0 ≤ 2 := fun s hs => by
    have h1 := hm s hs
    obtain ⟨n, hn⟩ : ∃ n : Nat, s.f0 = (n : Int) := ⟨s.f0.toNat, by omega⟩
    rw [hn, rd_get (by omega)]
    exact hL _ (List.getElem_mem _)
  have e0 : iotaL L.length = (ss.map rng).flatten := by
    rw [cover_flat h.cov]
    simp [iotaL, rng]
  have e1 : rra (qL L 2) [] (iotaL L.length) = (ss.map (fun s => if Qs L 2 s = true then (rng s).reverse else rng s)).flatten := by
    rw [e0]
    have := rra_flat (qL L 2) (Qs L 2) rng ss [] (fun s hs => ⟨rng_ne (hm s hs).2.1, fun x hx => by
      have hx := mem_rng.1 hx
      unfold qL Qs
      rw [h.same s hs x hx.1 hx.2]⟩) (by simp)
    simp only [List.map_nil, List.flatten_nil] at this
    rw [this, (two_alone L ss 0 _ (by omega) h.cov (fun s hs => (hlv s hs).2) h.same h.diff).1]
  unfold ord
  rw [e1]
  have := rra_flat (qL L 1) (Qs L 1) (fun s => if Qs L 2 s = true then (rng s).reverse else rng s) ss [] (fun s hs => by
    have key : ∀ x ∈ rng s, qL L 1 x = Qs L 1 s := fun x hx => by
      have hx := mem_rng.1 hx
      unfold qL Qs
      rw [h.same s hs x hx.1 hx.2]
    have hne := rng_ne (hm s hs).2.1
    split
    · exact ⟨by simpa using hne, fun x hx => key x (by simpa using hx)⟩
    · exact ⟨hne, key⟩) (by simp)
  simp only [List.map_nil, List.flatten_nil] at this
  rw [this]
  congr 1
  apply List.map_congr_left
  intro s hs
  have hv := hlv s (mem_rra hs)
  unfold G Qs
  simp only [decide_eq_true_eq]
  by_cases c1 : rd L s.f0 = 1
  · rw [if_pos (by omega), if_neg (by omega), if_pos c1]
  · rw [if_neg c1]
    by_cases c2 : rd L s.f0 ≥ 2
    · rw [if_pos (by omega), if_pos c2, List.reverse_reverse]
    · rw [if_neg (by omega), if_neg c2]
end Go.Proofs.YtfecolaljnijbaaDoor.Pure
