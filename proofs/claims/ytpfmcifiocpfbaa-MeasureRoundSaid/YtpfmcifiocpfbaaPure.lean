/- What the measure functions compute, in plain numbers: valid units, the sum of parts, normal parts. No program and no memory stands here. -/
import Derived.Test.YtpfmcifiocpfbaaCx1
set_option linter.unusedVariables false
set_option linter.unusedSimpArgs false
namespace Go.Proofs.Ytpfmcifiocpfbaa.Pure
open Go.RowKit Go.Proofs.Ytpfmcifiocpfbaa.C Go.Proofs.YtpfmcifiocpfbaaW.PrintWords

theorem wrap_id {x : Int} (h0 : -9223372036854775808 ≤ x) (h1 : x ≤ 9223372036854775807) : wrap64 x = x := by unfold wrap64; omega
/-- The size of a unit. -/
def sz (l : List S41) (i : Int) : Int := (rd_T41 l i).f1
/-- The name of a unit. -/
def nm (l : List S41) (i : Int) : List UInt8 := (rd_T41 l i).f0.toList
/-- What the laws ask of a unit: a name that has not come, a size. -/
def Ok (l : List S41) (i : Int) : Prop := nm l i ≠ [] ∧ (∀ j, 0 ≤ j → j < i → nm l j ≠ nm l i) ∧ sz l i ≤ 1000000 ∧ (0 < i → sz l (i - 1) < sz l i ∧ Int.tmod (sz l i) (sz l (i - 1)) = 0)
structure Val (l : List S41) : Prop where
  l1 : 1 ≤ (l.length : Int)
  l8 : (l.length : Int) ≤ 8
  one : sz l 0 = 1
  ok : ∀ i, 0 ≤ i → i < (l.length : Int) → Ok l i
theorem sz_pos {l : List S41} (h1 : sz l 0 = 1) : ∀ (n : Nat) (i : Int), i = n → (∀ j, 0 ≤ j → j ≤ i → Ok l j) → 1 ≤ sz l i
  | 0, i, e, _ => by subst e; show 1 ≤ sz l 0; omega
  | n + 1, i, e, h => by
    have := sz_pos h1 n (i - 1) (by omega) (fun j a b => h j a (by omega))
    have := ((h i (by omega) (Int.le_refl _)).2.2.2 (by omega)).1
    omega
theorem Val.pos {l : List S41} (v : Val l) {i : Int} (h0 : 0 ≤ i) (h1 : i < (l.length : Int)) : 1 ≤ sz l i :=
  sz_pos v.one i.toNat i (by omega) (fun j a b => v.ok j a (by omega))
theorem Val.top {l : List S41} (v : Val l) {i : Int} (h0 : 0 ≤ i) (h1 : i < (l.length : Int)) : sz l i ≤ 1000000 := (v.ok i h0 h1).2.2.1
/-- The next size is a multiple. -/
theorem Val.mul {l : List S41} (v : Val l) {i : Int} (h0 : 0 ≤ i) (h1 : i + 1 < (l.length : Int)) : sz l (i + 1) = sz l i * (Int.tdiv (sz l (i + 1)) (sz l i)) ∧ 0 ≤ Int.tdiv (sz l (i + 1)) (sz l i) ∧ Int.tdiv (sz l (i + 1)) (sz l i) ≤ 1000000 := by
  have p := v.pos h0 (by omega)
  have o := ((v.ok (i + 1) (by omega) h1).2.2.2 (by omega)).2
  have t := v.top (i := i + 1) (by omega) h1
  have q := v.pos (i := i + 1) (by omega) h1
  rw [show i + 1 - 1 = i by omega, Int.tmod_eq_emod_of_nonneg (by omega)] at o
  rw [Int.tdiv_eq_ediv_of_nonneg (by omega)]
  refine ⟨(Int.mul_ediv_cancel' (Int.dvd_of_emod_eq_zero o)).symm, Int.ediv_nonneg (by omega) (by omega), ?_⟩
  exact Int.le_trans (Int.ediv_le_self _ (by omega)) t

/-! ### valid units -/
theorem seen_iff (l : List S41) (i : Int) (h0 : 0 ≤ i) (h1 : i ≤ (l.length : Int)) (s : List UInt8) : seenIn (l.take i.toNat) s = true ↔ ∃ j, 0 ≤ j ∧ j < i ∧ nm l j = s := by
  unfold seenIn nm rd_T41
  simp only [List.any_eq_true, beq_iff_eq]
  constructor
  · rintro ⟨x, hx, e⟩
    obtain ⟨n, hn, rfl⟩ := List.getElem_of_mem hx
    rw [List.length_take] at hn
    refine ⟨n, by omega, by omega, ?_⟩
    rw [← e, List.getElem_take]
    simp [List.getD, List.getElem?_eq_getElem (show n < l.length by omega)]
  · rintro ⟨j, a, b, e⟩
    have hj : j.toNat < l.length := by omega
    refine ⟨l[j.toNat], ?_, ?_⟩
    · have : j.toNat < (l.take i.toNat).length := by rw [List.length_take]; omega
      have h2 := List.getElem_mem this
      rwa [List.getElem_take] at h2
    · rw [← e]
      simp [List.getD, List.getElem?_eq_getElem hj]
/-- What is true from i on is what is true at i and from i + 1 on. -/
theorem from_step {p : Int → Prop} {i n : Int} (h : i < n) : (∀ j, i ≤ j → j < n → p j) ↔ (p i ∧ ∀ j, i + 1 ≤ j → j < n → p j) := by
  constructor
  · exact fun H => ⟨H i (Int.le_refl _) h, fun j a b => H j (by omega) b⟩
  · rintro ⟨a, H⟩ j b c
    rcases Int.lt_or_eq_of_le b with d | rfl
    · exact H j (by omega) c
    · exact a
theorem valid_loop (l : List S41) (hn : ∀ i, 0 ≤ i → i < (l.length : Int) → (rd_T41 l i).f0.size ≤ 1000) (h8 : (l.length : Int) ≤ 8) (h1 : sz l 0 = 1) : ∀ (k : Nat) (i : Int), 0 ≤ i → i ≤ (l.length : Int) → (l.length : Int) - i + 1 ≤ k → (0 < i → 1 ≤ sz l (i - 1)) →
    ∃ b, measure_system_valid.l0 k l i = some b ∧ (b = true ↔ ∀ j, i ≤ j → j < (l.length : Int) → Ok l j)
  | 0, i, a, b, c, _ => by omega
  | k + 1, i, a, b, c, d => by
    simp only [measure_system_valid.l0]
    by_cases e : i < (l.length : Int)
    · rw [if_pos e, if_pos (hn i a e)]
      have no : ∀ {p : Prop}, ¬ Ok l i → ((false = true) ↔ ∀ j, i ≤ j → j < (l.length : Int) → Ok l j) := fun h => ⟨fun x => (by cases x), fun H => absurd (H i (Int.le_refl _) e) h⟩
      by_cases e1 : (rd_T41 l i).f0.toList = []
      · rw [if_pos e1]
        exact ⟨_, rfl, no (p := True) (fun o => o.1 e1)⟩
      · rw [if_neg e1]
        have S := seen_iff l i a b (rd_T41 l i).f0.toList
        by_cases e2 : seenIn (l.take i.toNat) (rd_T41 l i).f0.toList = true
        · rw [if_pos e2]
          obtain ⟨j, x, y, z⟩ := S.1 e2
          exact ⟨_, rfl, no (p := True) (fun o => o.2.1 j x y z)⟩
        · rw [if_neg e2]
          have dis : ∀ j, 0 ≤ j → j < i → nm l j ≠ nm l i := fun j x y z => e2 (S.2 ⟨j, x, y, z⟩)
          by_cases e3 : (rd_T41 l i).f1 > 1000000
          · rw [if_pos e3]
            exact ⟨_, rfl, no (p := True) (fun o => by have := o.2.2.1; unfold sz at this; omega)⟩
          · rw [if_neg e3]
            have on : (0 < i → sz l (i - 1) < sz l i ∧ Int.tmod (sz l i) (sz l (i - 1)) = 0) → Ok l i := fun x => ⟨e1, dis, by unfold sz; omega, x⟩
            have go : Ok l i → ∃ b, measure_system_valid.l0 k l (i + 1) = some b ∧ (b = true ↔ ∀ j, i ≤ j → j < (l.length : Int) → Ok l j) := fun o => by
              obtain ⟨r, R, I⟩ := valid_loop l hn h8 h1 k (i + 1) (by omega) (by omega) (by omega) (fun _ => by
                rw [show i + 1 - 1 = i by omega]
                rcases Int.lt_or_eq_of_le a with x | x
                · have := d x; have := (o.2.2.2 x).1; omega
                · rw [← x, h1]; omega)
              refine ⟨r, R, I.trans ?_⟩
              rw [from_step (p := Ok l) e]
              exact ⟨fun H => ⟨o, H⟩, fun H => H.2⟩
            by_cases e4 : i > 0
            · rw [if_pos e4]
              have p := d e4
              unfold sz at p
              by_cases e5 : (rd_T41 l i).f1 ≤ (rd_T41 l (i - 1)).f1
              · rw [if_pos e5]
                exact ⟨_, rfl, no (p := True) (fun o => by have := (o.2.2.2 e4).1; unfold sz at this; omega)⟩
              · rw [if_neg e5, if_neg (by omega)]
                by_cases e6 : Int.tmod (rd_T41 l i).f1 (rd_T41 l (i - 1)).f1 = 0
                · rw [if_pos e6]
                  exact go (on fun _ => ⟨by unfold sz; omega, e6⟩)
                · rw [if_neg e6]
                  exact ⟨_, rfl, no (p := True) (fun o => e6 (o.2.2.2 e4).2)⟩
            · rw [if_neg e4]
              exact go (on fun x => absurd x e4)
    · rw [if_neg e]
      exact ⟨_, rfl, fun _ j x y => by omega, fun _ => rfl⟩
/-- Whether units are valid, as a Bool. -/
noncomputable def vb (l : List S41) : Bool := @decide (Val l) (Classical.propDecidable _)
theorem vb_iff (l : List S41) : vb l = true ↔ Val l := by unfold vb; exact @decide_eq_true_iff _ (Classical.propDecidable _)
theorem some_vb {l : List S41} {b : Bool} {o : Option Bool} (h : o = some b) (i : b = true ↔ Val l) : o = some (vb l) := by
  rw [h]
  congr 1
  rw [Bool.eq_iff_iff, i, vb_iff]
theorem valid_at {k : Nat} (hk : 20 ≤ k) (l : List S41) (hn : ∀ i, 0 ≤ i → i < (l.length : Int) → (rd_T41 l i).f0.size ≤ 1000) : measure_system_valid.f k l = some (vb l) := by
  unfold measure_system_valid.f
  by_cases h1 : (l.length : Int) < 1
  · rw [if_pos h1]
    exact some_vb rfl ⟨fun x => (by cases x), fun v => by have := v.l1; omega⟩
  · rw [if_neg h1]
    by_cases h2 : (l.length : Int) > 8
    · rw [if_pos h2]
      exact some_vb rfl ⟨fun x => (by cases x), fun v => by have := v.l8; omega⟩
    · rw [if_neg h2]
      by_cases h3 : (rd_T41 l 0).f1 = 1
      · rw [if_pos h3]
        obtain ⟨b, R, I⟩ := valid_loop l hn (by omega) h3 k 0 (by omega) (by omega) (by omega) (fun x => by omega)
        exact some_vb R (I.trans ⟨fun H => ⟨by omega, by omega, h3, H⟩, fun v => v.ok⟩)
      · rw [if_neg h3]
        exact some_vb rfl ⟨fun x => (by cases x), fun v => absurd v.one h3⟩
theorem Check_at {k : Nat} (hk : 20 ≤ k) (l : List S41) (hn : ∀ i, 0 ≤ i → i < (l.length : Int) → (rd_T41 l i).f0.size ≤ 1000) : measure_Check.f k l = some (vb l) := by
  unfold measure_Check.f
  rw [valid_at hk l hn]
  rfl
theorem take_len (l : List S41) {i : Int} (h0 : 0 ≤ i) (h1 : i ≤ (l.length : Int)) : ((l.take i.toNat).length : Int) = i := by rw [List.length_take]; omega
theorem take_rd (l : List S41) {i j : Int} (h0 : 0 ≤ j) (h1 : j < i) (h2 : i ≤ (l.length : Int)) : rd_T41 (l.take i.toNat) j = rd_T41 l j := by
  unfold rd_T41
  have : j.toNat < (l.take i.toNat).length := by rw [List.length_take]; omega
  simp [List.getD, List.getElem?_take, show j.toNat < i.toNat by omega]
theorem refCheck_loop (l : List S41) (h8 : (l.length : Int) ≤ 8) (h1 : sz l 0 = 1) : ∀ (k : Nat),
    (∀ i, 0 ≤ i → i ≤ (l.length : Int) → 20 * ((l.length : Int) - i) + 1 ≤ k → (0 < i → 1 ≤ sz l (i - 1)) → ∃ b, pentaglotref16_Check.l0 k l l (l.length : Int) i = some b ∧ (b = true ↔ ∀ j, i ≤ j → j < (l.length : Int) → Ok l j)) ∧
    (∀ i j, 0 ≤ i → i < (l.length : Int) → 0 ≤ j → j ≤ i → 20 * ((l.length : Int) - i - 1) + 2 + (i - j) ≤ k → (0 < i → 1 ≤ sz l (i - 1)) → nm l i ≠ [] → (∀ m, 0 ≤ m → m < j → nm l m ≠ nm l i) →
      ∃ b, pentaglotref16_Check.l1 k l i l (l.length : Int) i (l.take i.toNat) ((l.take i.toNat).length : Int) j (rd_T41 l i).f0 (rd_T41 l i).f1 = some b ∧ (b = true ↔ ∀ j, i ≤ j → j < (l.length : Int) → Ok l j))
  | 0 => ⟨fun i a b c => by omega, fun i j a b c d e => by omega⟩
  | k + 1 => by
    obtain ⟨A, B⟩ := refCheck_loop l h8 h1 k
    constructor
    · intro i a b c d
      simp only [pentaglotref16_Check.l0]
      by_cases e : i < (l.length : Int)
      · rw [if_pos e, if_pos a, if_pos e]
        by_cases e1 : (rd_T41 l i).f0.toList = []
        · rw [if_pos e1]
          exact ⟨_, rfl, fun x => (by cases x), fun H => absurd e1 (H i (Int.le_refl _) e).1⟩
        · rw [if_neg e1, if_pos b]
          simp only [Option.bind_some]
          exact B i 0 a e (Int.le_refl _) a (by omega) d e1 (fun m x y => by omega)
      · rw [if_neg e]
        exact ⟨_, rfl, fun _ j x y => by omega, fun _ => rfl⟩
    · intro i j a b c d e f g h
      simp only [pentaglotref16_Check.l1]
      have tl := take_len l a (by omega)
      have no : ¬ Ok l i → ((false = true) ↔ ∀ j, i ≤ j → j < (l.length : Int) → Ok l j) := fun h => ⟨fun x => (by cases x), fun H => absurd (H i (Int.le_refl _) b) h⟩
      rw [tl]
      by_cases e1 : j < i
      · rw [if_pos e1, if_pos c, if_pos e1, take_rd l c e1 (by omega)]
        by_cases e2 : (rd_T41 l j).f0.toList = (rd_T41 l i).f0.toList
        · rw [if_pos e2]
          exact ⟨_, rfl, no fun o => o.2.1 j c e1 e2⟩
        · rw [if_neg e2, wrap_id (by omega) (by omega)]
          have R := B i (j + 1) a b (by omega) (by omega) (by omega) f g (fun m x y => by
            rcases Int.lt_or_eq_of_le (show m ≤ j by omega) with z | rfl
            · exact h m x z
            · exact e2)
          rw [tl] at R
          exact R
      · rw [if_neg e1]
        obtain rfl : j = i := by omega
        have go : Ok l j → ∃ b, pentaglotref16_Check.l0 k l l (l.length : Int) (wrap64 (j + 1)) = some b ∧ (b = true ↔ ∀ i, j ≤ i → i < (l.length : Int) → Ok l i) := fun o => by
          rw [wrap_id (by omega) (by omega)]
          obtain ⟨r, R, I⟩ := A (j + 1) (by omega) (by omega) (by omega) (fun _ => by
            rw [show j + 1 - 1 = j by omega]
            rcases Int.lt_or_eq_of_le a with x | x
            · have := f x; have := (o.2.2.2 x).1; omega
            · rw [← x, h1]; omega)
          refine ⟨r, R, I.trans ?_⟩
          rw [from_step (p := Ok l) b]
          exact ⟨fun H => ⟨o, H⟩, fun H => H.2⟩
        by_cases e4 : j > 0
        · have p := f e4
          unfold sz at p
          rw [if_pos e4, wrap_id (by omega) (by omega), if_pos (by omega), if_pos (by omega)]
          by_cases e5 : (rd_T41 l j).f1 ≤ (rd_T41 l (j - 1)).f1
          · rw [if_pos e5]
            exact ⟨_, rfl, no (fun o => by have := (o.2.2.2 e4).1; unfold sz at this; omega)⟩
          · rw [if_neg e5]
            by_cases e3 : (rd_T41 l j).f1 > 1000000
            · rw [if_pos e3]
              exact ⟨_, rfl, no (fun o => by have := o.2.2.1; unfold sz at this; omega)⟩
            · rw [if_neg e3, if_neg (by omega)]
              by_cases e6 : Int.tmod (rd_T41 l j).f1 (rd_T41 l (j - 1)).f1 = 0
              · rw [if_pos e6]
                exact go ⟨g, h, by unfold sz; omega, fun _ => ⟨by unfold sz; omega, e6⟩⟩
              · rw [if_neg e6]
                exact ⟨_, rfl, no (fun o => e6 (o.2.2.2 e4).2)⟩
        · rw [if_neg e4]
          obtain rfl : j = 0 := by omega
          exact go ⟨g, h, by rw [h1]; omega, fun x => by omega⟩
theorem refCheck_at {k : Nat} (hk : 200 ≤ k) (l : List S41) : pentaglotref16_Check.f k l = some (vb l) := by
  obtain ⟨k, rfl⟩ : ∃ m, k = m + 1 := ⟨k - 1, by omega⟩
  unfold pentaglotref16_Check.f
  simp only [pentaglotref16_Check.j0]
  by_cases h1 : (l.length : Int) < 1
  · rw [if_pos h1, if_pos trivial]
    exact some_vb rfl ⟨fun x => (by cases x), fun v => by have := v.l1; omega⟩
  · rw [if_neg h1]
    by_cases h2 : (l.length : Int) > 8
    · rw [if_pos h2, if_pos trivial]
      exact some_vb rfl ⟨fun x => (by cases x), fun v => by have := v.l8; omega⟩
    · rw [if_neg h2, if_pos (by omega)]
      by_cases h3 : (rd_T41 l 0).f1 = 1
      · rw [if_neg (by rw [h3]; decide)]
        obtain ⟨b, R, I⟩ := (refCheck_loop l (by omega) h3 k).1 0 (by omega) (by omega) (by omega) (fun x => by omega)
        exact some_vb R (I.trans ⟨fun H => ⟨by omega, by omega, h3, H⟩, fun v => v.ok⟩)
      · rw [if_pos (bne_iff_ne.mpr h3)]
        exact some_vb rfl ⟨fun x => (by cases x), fun v => absurd v.one h3⟩
end Go.Proofs.Ytpfmcifiocpfbaa.Pure
