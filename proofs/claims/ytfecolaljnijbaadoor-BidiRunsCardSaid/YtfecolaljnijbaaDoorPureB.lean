/- The levels: what the program raises is what reaches an end on either side. No program and no memory stands here. -/
import Derived.Test.YtfecolaljnijbaaDoorPureA
import Derived.Test.YtfecolaljnijbaaDoorCx10
set_option linter.unusedVariables false
set_option linter.unusedSimpArgs false
namespace Go.Proofs.YtfecolaljnijbaaDoor.Pure
open Go.RowKit Go.Lib Go.Proofs.YtfecolaljnijbaaDoor.C Go.Proofs.YtfecolaljnijbaaDoorW.PrintWords Go.Proofs.YtfecolaljnijbaaDoor.Utf

/-- From here on an end comes ahead of a barrier. -/
def reach (p : Int → Bool) (v : Int) : List Int → Bool
  | [] => false
  | c :: cs => if c = v then false else if p c = true then true else reach p v cs
/-- Within an island: an end on either side, no barrier between. -/
def inn (p : Int → Bool) (v : Int) (cs : List Int) (i : Nat) : Bool := reach p v (cs.drop i) && reach p v ((cs.take (i + 1)).reverse)
theorem reach_iff {p : Int → Bool} {v : Int} : ∀ cs : List Int, reach p v cs = true ↔ ∃ r, r < cs.length ∧ p (cs.getD r 0) = true ∧ ∀ m, m ≤ r → cs.getD m 0 ≠ v
  | [] => by simp [reach]
  | c :: cs => by
    have ih := reach_iff (p := p) (v := v) cs
    unfold reach
    by_cases e : c = v
    · rw [if_pos e]
      refine ⟨fun h => by simp at h, fun ⟨r, _, _, h⟩ => ?_⟩
      exact absurd (by simpa using e) (h 0 (Nat.zero_le _))
    · rw [if_neg e]
      by_cases q : p c = true
      · rw [if_pos q]
        refine ⟨fun _ => ⟨0, by simp, by simpa using q, fun m hm => ?_⟩, fun _ => rfl⟩
        obtain rfl : m = 0 := by omega
        simpa using e
      · rw [if_neg q, ih]
        constructor
        · rintro ⟨r, h1, h2, h3⟩
          refine ⟨r + 1, by simpa using h1, by simpa using h2, fun m hm => ?_⟩
          cases m with
          | zero => simpa using e
          | succ m => simpa using h3 m (by omega)
        · rintro ⟨r, h1, h2, h3⟩
          cases r with
          | zero => exact absurd (by simpa using h2) q
          | succ r => exact ⟨r, by simpa using h1, by simpa using h2, fun m hm => by simpa using h3 (m + 1) (by omega)⟩
/-- Two ends and no barrier between them. -/
def Conn (p : Int → Bool) (v : Int) (cs : List Int) (l r : Nat) : Prop := l ≤ r ∧ r < cs.length ∧ p (cs.getD l 0) = true ∧ p (cs.getD r 0) = true ∧ ∀ m, l ≤ m → m ≤ r → cs.getD m 0 ≠ v
theorem drop_getD (cs : List Int) (i m : Nat) : (cs.drop i).getD m 0 = cs.getD (i + m) 0 := by
  simp [List.getD_eq_getElem?_getD, List.getElem?_drop]
theorem rtake_getD (cs : List Int) (i m : Nat) (hi : i < cs.length) (hm : m ≤ i) : ((cs.take (i + 1)).reverse).getD m 0 = cs.getD (i - m) 0 := by
  have hl : (cs.take (i + 1)).length = i + 1 := by rw [List.length_take]; omega
  simp only [List.getD_eq_getElem?_getD]
  rw [List.getElem?_reverse (by omega), hl, List.getElem?_take, if_pos (by omega)]
  congr 2
theorem inn_iff {p : Int → Bool} {v : Int} {cs : List Int} {i : Nat} (hi : i < cs.length) : inn p v cs i = true ↔ ∃ l r, l ≤ i ∧ i ≤ r ∧ Conn p v cs l r := by
  have hl : (cs.take (i + 1)).length = i + 1 := by rw [List.length_take]; omega
  unfold inn
  rw [Bool.and_eq_true, reach_iff, reach_iff]
  constructor
  · rintro ⟨⟨r, h1, h2, h3⟩, ⟨l, k1, k2, k3⟩⟩
    rw [List.length_drop] at h1
    rw [List.length_reverse, hl] at k1
    rw [drop_getD] at h2
    rw [rtake_getD cs i l hi (by omega)] at k2
    refine ⟨i - l, i + r, by omega, by omega, by omega, by omega, k2, h2, fun m h4 h5 => ?_⟩
    by_cases c : m ≤ i
    · have := k3 (i - m) (by omega)
      rw [rtake_getD cs i (i - m) hi (by omega), show i - (i - m) = m by omega] at this
      exact this
    · have := h3 (m - i) (by omega)
      rw [drop_getD, show i + (m - i) = m by omega] at this
      exact this
  · rintro ⟨l, r, h1, h2, h3, h4, h5, h6, h7⟩
    refine ⟨⟨r - i, by rw [List.length_drop]; omega, by rw [drop_getD, show i + (r - i) = r by omega]; exact h6, fun m hm => ?_⟩, ⟨i - l, by rw [List.length_reverse, hl]; omega, by rw [rtake_getD cs i (i - l) hi (by omega), show i - (i - l) = l by omega]; exact h5, fun m hm => ?_⟩⟩
    · rw [drop_getD]; exact h7 _ (by omega) (by omega)
    · rw [rtake_getD cs i m hi (by omega)]; exact h7 _ (by omega) (by omega)
theorem scan_spec {p : Int → Bool} {v : Int} (cs : List Int) : ∀ (d k last : Nat), cs.length - k = d → k ≤ cs.length →
    (∀ r, k ≤ r → r < cs.length → p (cs.getD r 0) = true → (∀ m, k ≤ m → m ≤ r → cs.getD m 0 ≠ v) → r ≤ scan p v (cs.drop k) k last) ∧
    (scan p v (cs.drop k) k last = last ∨ (k ≤ scan p v (cs.drop k) k last ∧ scan p v (cs.drop k) k last < cs.length ∧ p (cs.getD (scan p v (cs.drop k) k last) 0) = true ∧ ∀ m, k ≤ m → m ≤ scan p v (cs.drop k) k last → cs.getD m 0 ≠ v))
  | 0, k, last, hd, hk => by
    rw [List.drop_eq_nil_of_le (by omega)]
    exact ⟨fun r h1 h2 => absurd h2 (by omega), .inl rfl⟩
  | d + 1, k, last, hd, hk => by
    have hlt : k < cs.length := by omega
    have hg : cs[k] = cs.getD k 0 := by simp [List.getD, List.getElem?_eq_getElem hlt]
    rw [List.drop_eq_getElem_cons hlt]
    simp only [scan]
    rw [hg]
    by_cases e : cs.getD k 0 = v
    · rw [if_pos e]
      exact ⟨fun r h1 h2 h3 h4 => absurd e (h4 k (Nat.le_refl _) h1), .inl rfl⟩
    · rw [if_neg e]
      obtain ⟨i1, i2⟩ := scan_spec (p := p) (v := v) cs d (k + 1) (if p (cs.getD k 0) = true then k else last) (by omega) (by omega)
      generalize scan p v (cs.drop (k + 1)) (k + 1) (if p (cs.getD k 0) = true then k else last) = L at i1 i2
      refine ⟨fun r h1 h2 h3 h4 => ?_, ?_⟩
      · by_cases er : r = k
        · subst er
          rw [if_pos h3] at i2
          rcases i2 with h | ⟨h, _⟩ <;> omega
        · exact i1 r (by omega) h2 h3 (fun m h5 h6 => h4 m (by omega) h6)
      · rcases i2 with h | ⟨h, h5, h6, h7⟩
        · by_cases q : p (cs.getD k 0) = true
          · rw [if_pos q] at h
            subst h
            exact .inr ⟨Nat.le_refl _, hlt, q, fun m h1 h2 => by rw [show m = L by omega]; exact e⟩
          · rw [if_neg q] at h; exact .inl h
        · refine .inr ⟨by omega, h5, h6, fun m h1 h2 => ?_⟩
          by_cases em : m = k
          · subst em; exact e
          · exact h7 m (by omega) h2
theorem fill_len (f : Nat → Int) : ∀ (m i : Nat) (zs : List Int), (fill f m i zs).length = zs.length
  | 0, i, zs => rfl
  | m + 1, i, zs => by rw [fill, fill_len f m]; simp
theorem fill_get (f : Nat → Int) : ∀ (m i : Nat) (zs : List Int), i + m ≤ zs.length → ∀ j, (fill f m i zs).getD j 0 = if i ≤ j ∧ j < i + m then f j else zs.getD j 0
  | 0, i, zs, h, j => by rw [fill, if_neg (by omega)]
  | m + 1, i, zs, h, j => by
    rw [fill, fill_get f m (i + 1) _ (by simp; omega) j, getD_set _ _ _ _ (by omega)]
    by_cases e : i = j
    · subst e
      rw [if_neg (by omega), if_pos rfl, if_pos (by omega)]
    · rw [if_neg e]
      by_cases c : i + 1 ≤ j ∧ j < i + 1 + m
      · rw [if_pos c, if_pos (by omega)]
      · rw [if_neg c, if_neg (by omega)]
theorem raise_get {p : Int → Bool} {v : Int} (f : Nat → Int) (cs : List Int) (hpv : p v = false) : ∀ (d i : Nat) (zs : List Int), cs.length < i + d → i ≤ cs.length → zs.length = cs.length → (∀ l r, l < i → i ≤ r → ¬ Conn p v cs l r) →
    ∀ j, j < cs.length → (raiseL p v f cs d i zs).getD j 0 = if i ≤ j ∧ inn p v cs j = true then f j else zs.getD j 0
  | 0, i, zs, hd, hi, hz, hv, j, hj => absurd hd (by omega)
  | d + 1, i, zs, hd, hi, hz, hv, j, hj => by
    unfold raiseL
    by_cases c1 : i < cs.length
    · rw [if_pos c1]
      have hrd : rd cs (i : Int) = cs.getD i 0 := by simp [rd]
      rw [hrd]
      by_cases c2 : p (cs.getD i 0) = true
      · rw [if_pos c2]
        obtain ⟨s1, s2⟩ := scan_spec (p := p) (v := v) cs _ i i rfl (by omega)
        have hnv : cs.getD i 0 ≠ v := fun e => by rw [e, hpv] at c2; simp at c2
        have s3 : i ≤ scan p v (cs.drop i) i i ∧ scan p v (cs.drop i) i i < cs.length ∧ p (cs.getD (scan p v (cs.drop i) i i) 0) = true ∧ ∀ m, i ≤ m → m ≤ scan p v (cs.drop i) i i → cs.getD m 0 ≠ v := by
          rcases s2 with h | h
          · rw [h]
            exact ⟨Nat.le_refl _, c1, c2, fun m h1 h2 => by rw [show m = i by omega]; exact hnv⟩
          · exact h
        generalize scan p v (cs.drop i) i i = L at s1 s3 ⊢
        obtain ⟨h1, h2, h3, h4⟩ := s3
        rw [raise_get f cs hpv d (L + 1) _ (by omega) (by omega) (by rw [fill_len]; exact hz) (fun l r hl hr hc => ?_) j hj, fill_get f _ _ _ (by omega) j]
        · by_cases c : L + 1 ≤ j
          · by_cases q : inn p v cs j = true
            · rw [if_pos ⟨c, q⟩, if_pos ⟨by omega, q⟩]
            · rw [if_neg (fun h => q h.2), if_neg (by omega), if_neg (fun h => q h.2)]
          · rw [if_neg (fun h => c h.1)]
            by_cases c3 : i ≤ j
            · rw [if_pos (by omega), if_pos ⟨c3, (inn_iff hj).2 ⟨i, L, c3, by omega, h1, h2, c2, h3, h4⟩⟩]
            · rw [if_neg (by omega), if_neg (fun h => c3 h.1)]
        · obtain ⟨k1, k2, k3, k4, k5⟩ := hc
          by_cases c : l < i
          · exact hv l r c (by omega) ⟨k1, k2, k3, k4, k5⟩
          · have := s1 r (by omega) k2 k4 (fun m m1 m2 => by
              by_cases cm : m ≤ L
              · exact h4 m m1 cm
              · exact k5 m (by omega) m2)
            omega
      · rw [if_neg c2, raise_get f cs hpv d (i + 1) zs (by omega) (by omega) hz (fun l r hl hr hc => ?_) j hj]
        · by_cases q : inn p v cs j = true
          · by_cases c : i + 1 ≤ j
            · rw [if_pos ⟨c, q⟩, if_pos ⟨by omega, q⟩]
            · rw [if_neg (fun h => c h.1)]
              by_cases e : i = j
              · subst e
                exfalso
                obtain ⟨l, r, h1, h2, h3⟩ := (inn_iff hj).1 q
                by_cases el : l = i
                · subst el; exact c2 h3.2.2.1
                · exact hv l r (by omega) h2 h3
              · rw [if_neg (fun h => by omega)]
          · rw [if_neg (fun h => q h.2), if_neg (fun h => q h.2)]
        · by_cases el : l = i
          · subst el; exact c2 hc.2.2.1
          · exact hv l r (by omega) (by omega) hc
    · rw [if_neg c1, if_neg (fun h => by omega)]
/-- The level of a place. -/
def lvl (b : Int) (cs : List Int) (i : Nat) : Int := if b = 0 then (if inn end0 1 cs i = true then (if cs.getD i 0 = 3 then 2 else 1) else 0) else (if inn end1 2 cs i = true then 2 else 1)
def lvls (b : Int) (cs : List Int) : List Int := (List.range cs.length).map (lvl b cs)
theorem list_ext {xs ys : List Int} (h : xs.length = ys.length) (k : ∀ j, j < xs.length → xs.getD j 0 = ys.getD j 0) : xs = ys := by
  apply List.ext_getElem h
  intro j h1 h2
  have := k j h1
  simpa [List.getD, List.getElem?_eq_getElem h1, List.getElem?_eq_getElem h2] using this
theorem lvls_get (b : Int) (cs : List Int) {j : Nat} (hj : j < cs.length) : (lvls b cs).getD j 0 = lvl b cs j := by
  simp [lvls, List.getD, hj]
theorem lvls_len (b : Int) (cs : List Int) : (lvls b cs).length = cs.length := by simp [lvls]
theorem levelsL_lvls (b : Int) (cs : List Int) : levelsL b cs = lvls b cs := by
  apply list_ext
  · rw [levelsL_len, lvls_len]
  · intro j hj
    rw [levelsL_len] at hj
    rw [lvls_get b cs hj]
    unfold levelsL lvl
    have hr : ∀ z : Int, (List.replicate cs.length z).getD j 0 = z := fun z => by simp [List.getD, hj]
    by_cases c : b = 0
    · rw [if_pos c, if_pos c, raise_get _ cs (by rfl) _ 0 _ (by omega) (by omega) (by simp) (fun l r h => absurd h (Nat.not_lt_zero _)) j hj, hr]
      simp [lev0, rd]
    · rw [if_neg c, if_neg c, raise_get _ cs (by rfl) _ 0 _ (by omega) (by omega) (by simp) (fun l r h => absurd h (Nat.not_lt_zero _)) j hj, hr]
      simp [lev1]
end Go.Proofs.YtfecolaljnijbaaDoor.Pure
